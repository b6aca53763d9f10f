/- CHAIN: the document's answer. -/
import Derived.Test.YthdoklobbcedcabHChC
set_option linter.unusedVariables false
set_option linter.unusedSimpArgs false
set_option maxRecDepth 100000
namespace Go.Cen
noncomputable def rHeadsS (acc : List (List Int)) (h : List Int) : List ApiEvent → List (List Int) ⊕ List (List Int)
  | [] => .inr acc
  | e :: r => if validE e then rHeadsS (acc ++ [nx h e]) (nx h e) r else .inl []
theorem rHeadsS_eq : ∀ (l : List ApiEvent) (acc : List (List Int)) (h : List Int), rHeadsS (acc ++ [h]) h l = if allV l = true then .inr (acc ++ hds h l) else .inl []
  | [], acc, h => rfl
  | e :: r, acc, h => by
    have := rHeadsS_eq r (acc ++ [h]) (nx h e)
    simp only [rHeadsS, allV, List.all_cons, hds] at this ⊢
    rw [this]
    by_cases hv : validE e = true
    · simp [hv]
    · have hv' : validE e = false := by simpa using hv
      simp [hv']
theorem rStart_eq : ref06_Start = some hd0 := by
  unfold ref06_Start
  rw [c0_eq, hd0_eq.2.1]; rfl
theorem rHeads_eq {l : List ApiEvent} (hl : okL l) (hn : l.length ≤ 10000) : ref06_Heads l = some (if allV l then hds hd0 l else []) := by
  have hL := LIM_val
  have := loopI l (by omega) (fun k i (s : List (List Int) × List Int) => ref06_Heads.l0 l k s.1 i s.2) (fun r s => some (rHeadsS s.1 s.2 r)) (fun r s => s.2.length = 32 ∧ s.1.length + r.length ≤ 20000)
    (fun k s hd hI => by simp only [ref06_Heads.l0, hd, rHeadsS]; rfl)
    (fun k i x r s hi hlen hm hd hg hx hw hI ih => by
      have he := hl x hm
      simp only [List.length_cons] at hI
      simp only [ref06_Heads.l0, hd, if_true, hg, and_self, hx, (Next_eq hI.1 he).2, Option.bind_some, nextP]
      cases hv : validE x with
      | false => simp [rHeadsS, hv]
      | true =>
        have hq : s.1.length + ([nx s.2 x] : List (List Int)).length ≤ LIM := by simp only [List.length_cons, List.length_nil]; omega
        simp only [if_true, Bool.not_true, Bool.false_eq_true, if_false, hw, hq]
        have := ih (s.1 ++ [nx s.2 x], nx s.2 x) ⟨(nx_ok hI.1 he).1, by simp only [List.length_append, List.length_cons, List.length_nil]; omega⟩
        simp only at this
        rw [this]
        simp [rHeadsS, hv]) ([hd0], hd0) ⟨hd0_eq.2.2.1, by simp only [List.length_cons, List.length_nil]; omega⟩
  unfold ref06_Heads
  rw [rStart_eq]
  simp only [Option.bind_some]
  rw [show ref06_Heads.l0 l FU [hd0] 0 hd0 = _ from this, show ([hd0] : List (List Int)) = [] ++ [hd0] from rfl, rHeadsS_eq]
  cases allV l <;> rfl
theorem rinput_eq {l : List ApiEvent} (hl : okL l) (hn : l.length ≤ 10000) (hv : allV l = true) {n : Nat} (h : n ≤ l.length) : ref06_input (hds hd0 l) l (n : Int) = some (strOfNums (gt (inp c0 hd0 l) (n : Int))) := by
  have hL := LIM_val
  unfold ref06_input
  cases n with
  | zero =>
    have : gt (inp c0 hd0 l) ((0 : Nat) : Int) = c0 := gt_some (inp_zero l c0 hd0)
    rw [this]; rfl
  | succ n =>
    have hz : (((n + 1 : Nat) : Int) == 0) = false := by simp; omega
    have hw : wi64 (((n + 1 : Nat) : Int) - 1) = (n : Int) := by rw [wi64_id (by omega)]; omega
    have g1 : 0 ≤ (n : Int) ∧ (n : Int) < (l.length : Int) := ⟨by omega, by omega⟩
    have g2 : 0 ≤ (n : Int) ∧ (n : Int) < ((hds hd0 l).length : Int) := by rw [hds_len]; omega
    have he : okE l[n] := hl _ (List.getElem_mem _)
    have hve : validE l[n] = true := List.all_eq_true.1 hv _ (List.getElem_mem _)
    have hpl := putE_len he
    have e1 : gt (hds hd0 l) (n : Int) = fin hd0 (l.take n) := gt_some (hds_get l hd0 n (by omega))
    have e2 : gt (inp c0 hd0 l) ((n + 1 : Nat) : Int) = fin hd0 (l.take n) ++ putE l[n] := gt_some (inp_get l c0 hd0 n (by omega))
    have h32 := (fin_ok hd0_eq.2.2.1 hd0_eq.2.2.2 (okL_take hl n)).1
    have hq : (strOfNums (fin hd0 (l.take n))).size + (strOfNums (putE l[n])).size ≤ LIM := by rw [strOfNums_size, strOfNums_size]; omega
    simp only [hz, Bool.false_eq_true, if_false, hw, g1, g2, and_self, if_true, gt_nat l n (by omega), ref05_Put_eq he, putR, hve, Option.bind_some, e1, ref_bytes h32, hq, e2, strOfNums_append]
end Go.Cen
