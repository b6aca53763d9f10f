/- CHAIN: the laws on heads. -/
import Derived.Test.YthdoklobbcedcacChB
set_option linter.unusedVariables false
set_option linter.unusedSimpArgs false
set_option maxRecDepth 100000
namespace Go.Cen
theorem z32_eq : ([0, 0, 0, 0, 0, 0, 0, 0, 0, 0, 0, 0, 0, 0, 0, 0, 0, 0, 0, 0, 0, 0, 0, 0, 0, 0, 0, 0, 0, 0, 0, 0] : List Int) = z32 := rfl
theorem okL_app {a b : List ApiEvent} (ha : okL a) (hb : okL b) : okL (a ++ b) := fun e he => (List.mem_append.1 he).elim (ha e) (hb e)
theorem parts_l0 (x y : List (List Int)) (hn : x.length ≤ 100000) (h : ∀ n, n < x.length → y[n]? = x[n]?) : law06_ChainParts.l0 x y FU 0 = some (.inr ()) := by
  have := loopG x (by omega) (fun k i (_ : Unit) => law06_ChainParts.l0 x y k i) (fun _ _ => some (.inr ()))
    (fun k s hd => by simp only [law06_ChainParts.l0, hd]; rfl)
    (fun k i v r s hi hlen hd hg hx hw ih => by
      have e := h i hi
      have hy : i < y.length := by
        rcases Nat.lt_or_ge i y.length with q | q
        · exact q
        · rw [List.getElem?_eq_none q, List.getElem?_eq_getElem hi] at e; cases e
      have ge : decide ((i : Int) ≥ (y.length : Int)) = false := by simp; omega
      have hg2 : 0 ≤ (i : Int) ∧ (i : Int) < (y.length : Int) := ⟨by omega, by omega⟩
      have e2 : gt y (i : Int) = gt x (i : Int) := by
        rw [List.getElem?_eq_getElem hi, List.getElem?_eq_getElem hy] at e
        rw [gt_nat x i hi, gt_nat y i hy]; exact Option.some.inj e
      simp only [law06_ChainParts.l0, hd, if_true, ge, Bool.false_eq_true, if_false, hg, hg2, and_self, e2, eqA_refl, Bool.not_true, Option.bind_some, hw]
      exact ih ()) ()
  exact this
theorem headP_len {h : List Int} (h32 : h.length = 32) (hB : isB h) {l : List ApiEvent} (hl : okL l) : (headP h l).1.length = 32 ∧ isB (headP h l).1 := by
  unfold headP
  split
  · exact fin_ok h32 hB hl
  · exact ⟨rfl, by intro x hx; have := List.eq_of_mem_replicate hx; omega⟩
theorem law06_ChainParts_eq (a0 : List Int) (a1 a2 : List ApiEvent) (h32 : a0.length = 32) (hB : isB a0) (s1 : sumsOk a1) (s2 : sumsOk a2) : law06_ChainParts a0 a1 a2 = some true := by
  have hL := LIM_val
  unfold law06_ChainParts
  rw [works06]
  simp only [Option.bind_some, Bool.not_true, Bool.false_eq_true, if_false, Few_eq]
  cases f1 : fewE a1 with
  | false => rfl
  | true =>
    cases f2 : fewE a2 with
    | false => rfl
    | true =>
      obtain ⟨o1, n1⟩ := few_ok s1 f1
      obtain ⟨o2, n2⟩ := few_ok s2 f2
      have q1 : ([] : List ApiEvent).length + a1.length ≤ LIM := by simp; omega
      have q2 : (([] : List ApiEvent) ++ a1).length + a2.length ≤ LIM := by simp; omega
      have hp := headP_len h32 hB o1
      have e12 : (([] : List ApiEvent) ++ a1) ++ a2 = a1 ++ a2 := rfl
      simp only [if_true, Option.bind_some, Bool.not_true, Bool.false_eq_true, if_false, q1, q2, Head_eq h32 o1 (by omega), Head_eq hp.1 o2 (by omega), e12, Head_eq h32 (okL_app o1 o2) (by simp; omega), Heads_eq o1 (by omega), Heads_eq (okL_app o1 o2) (by simp; omega), z32_eq]
      unfold headP
      rw [allV_app, fin_app]
      cases v1 : allV a1 with
      | false => simp [eqA_refl]
      | true =>
        cases v2 : allV a2 with
        | false => simp [v2, eqA_refl]
        | true =>
          have hl := parts_l0 (hds hd0 a1) (hds hd0 (a1 ++ a2)) (by rw [hds_len]; omega) (fun n hn => by
            rw [hds_len] at hn
            rw [hds_get a1 hd0 n (by omega), hds_get (a1 ++ a2) hd0 n (by simp; omega), List.take_append_of_le_length (by omega)])
          simp [v2, hl, eqA_refl]
/-! ### two rows of one head -/
end Go.Cen
