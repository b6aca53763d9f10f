/- RULE: the laws on one file. -/
import Derived.Test.YthdoklobbcedcacDoorRuA
set_option linter.unusedVariables false
set_option linter.unusedSimpArgs false
set_option maxRecDepth 100000
namespace Go.Cen
/-! ### how much is looked at -/
def fewB (nm da : ByteArray) (l : List ByteArray) : Bool := (l.take 201).all (fun e => decide (e.size ≤ 200)) && (decide (l.length ≤ 200) && (decide (da.size ≤ 2000) && decide (nm.size ≤ 200)))
theorem fewF_l0 (l : List ByteArray) : ∀ (d i k : Nat), d + i = 201 → i ≤ l.length → d < k → law07_Few.l0 l k (i : Int) = some (if ((l.drop i).take d).all (fun e => decide (e.size ≤ 200)) = true then .inr () else .inl false) := by
  intro d
  induction d with
  | zero =>
    intro i k h1 h2 h3
    obtain ⟨k, rfl⟩ : ∃ m, k = m + 1 := ⟨k - 1, by omega⟩
    have hi : i = 201 := by omega
    subst hi
    by_cases h : (201 : Nat) < l.length
    · have hd : decide ((((201 : Nat)) : Int) < (l.length : Int)) = true := by simp; omega
      have : decide ((((201 : Nat)) : Int) ≤ 200) = false := by decide
      simp [law07_Few.l0, hd, this]
    · have hd : decide ((((201 : Nat)) : Int) < (l.length : Int)) = false := by simp; omega
      simp [law07_Few.l0, hd]
  | succ d ih =>
    intro i k h1 h2 h3
    obtain ⟨k, rfl⟩ : ∃ m, k = m + 1 := ⟨k - 1, by omega⟩
    by_cases h : i < l.length
    · have hd : decide ((i : Int) < (l.length : Int)) = true := by simp; omega
      have h20 : decide ((i : Int) ≤ 200) = true := by simp; omega
      have hg : 0 ≤ (i : Int) ∧ (i : Int) < (l.length : Int) := ⟨by omega, by omega⟩
      have hw : wi64 ((i : Int) + 1) = ((i + 1 : Nat) : Int) := by rw [wi64_id (by omega)]; omega
      have hcons : l.drop i = l[i] :: l.drop (i + 1) := List.drop_eq_getElem_cons h
      simp only [law07_Few.l0, hd, h20, if_true, Option.bind_some, hg, and_self, gt_nat l i h, hw]
      rw [ih (i + 1) k (by omega) (by omega) (by omega), hcons]
      simp only [List.take_succ_cons, List.all_cons]
      by_cases q : (l[i].size : Int) > 200
      · have q' : ¬ l[i].size ≤ 200 := by omega
        simp [q, q']
      · have q' : l[i].size ≤ 200 := by omega
        simp [q, q']
    · have hd : decide ((i : Int) < (l.length : Int)) = false := by simp; omega
      have hz : l.drop i = [] := List.drop_eq_nil_iff.2 (by omega)
      simp only [law07_Few.l0, hd, hz]
      simp
theorem Few7_eq (i : Int) (nm da : ByteArray) (sd : Bool) (un : Int) (l : List ByteArray) : law07_Few i nm da sd un l = some (fewB nm da l) := by
  have hF : FU = 4611686018427387904 := rfl
  have := fewF_l0 l 201 0 FU (by omega) (by omega) (by omega)
  unfold law07_Few fewB
  rw [show law07_Few.l0 l FU 0 = _ from this]
  simp only [List.drop_zero, Option.bind_some]
  cases (l.take 201).all (fun e => decide (e.size ≤ 200)) with
  | false => rfl
  | true =>
    simp only [if_true, Bool.true_and]
    have e1 : decide ((l.length : Int) ≤ 200) = decide (l.length ≤ 200) := decide_eq_decide.2 (by omega)
    have e2 : decide ((da.size : Int) ≤ 2000) = decide (da.size ≤ 2000) := decide_eq_decide.2 (by omega)
    have e3 : decide ((nm.size : Int) ≤ 200) = decide (nm.size ≤ 200) := decide_eq_decide.2 (by omega)
    rw [e1, e2, e3]
    cases decide (l.length ≤ 200) <;> cases decide (da.size ≤ 2000) <;> rfl
theorem fewB_ok {nm da : ByteArray} {l : List ByteArray} (h : fewB nm da l = true) : l.length ≤ 200 ∧ ∀ x ∈ l, x.size ≤ 200 := by
  simp only [fewB, Bool.and_eq_true, decide_eq_true_eq] at h
  refine ⟨h.2.1, fun e he => ?_⟩
  have ht : l.take 201 = l := List.take_of_length_le (by omega)
  rw [ht] at h
  have := List.all_eq_true.1 h.1 e he
  simpa using this
theorem fewB_small {nm da : ByteArray} {l : List ByteArray} (h : fewB nm da l = true) : smallL l :=
  ⟨by have := (fewB_ok h).1; omega, fun x hx => by have := (fewB_ok h).2 x hx; omega⟩
theorem insL_few {l : List ByteArray} {s : ByteArray} (h : l.length ≤ 200 ∧ ∀ x ∈ l, x.size ≤ 200) (hs : s.size ≤ 200) : smallL (insL s l) :=
  ⟨by rw [insL_len]; omega, fun x hx => by
    rcases (insL_mem s l).1 hx with e | e
    · rw [e]; omega
    · have := h.2 x e; omega⟩
theorem holdF_small {sd : Bool} {l : List ByteArray} {s : ByteArray} (h : l.length ≤ 200 ∧ ∀ x ∈ l, x.size ≤ 200) (hs : s.size ≤ 200) : smallL (holdF sd l s).1 := by
  have h0 : smallL l := ⟨by omega, fun x hx => by have := h.2 x hx; omega⟩
  unfold holdF
  repeat' split
  all_goals first | exact h0 | exact insL_few h hs
/-! ### the laws -/
theorem seq_refl (s : ByteArray) : seq s s = true := (seq_iff s s).2 rfl
theorem del_ins {s : ByteArray} : ∀ {l : List ByteArray}, s ∉ l → delL s (insL s l) = l
  | [], _ => by simp [insL, delL, seq_refl]
  | x :: r, h => by
    unfold insL
    have hx : seq s x = false := by
      cases q : seq s x with
      | false => rfl
      | true => exact absurd ((seq_iff s x).1 q) (fun e => h (by rw [e]; simp))
    split
    · unfold delL
      rw [hx, del_ins (fun q => h (List.mem_cons_of_mem _ q))]; rfl
    · unfold delL; rw [if_pos (seq_refl s)]
def cntS (s : ByteArray) : List ByteArray → Nat
  | [] => 0
  | x :: r => (if seq x s = true then 1 else 0) + cntS s r
theorem cnt_no {s : ByteArray} : ∀ {l : List ByteArray}, s ∉ l → cntS s l = 0
  | [], _ => rfl
  | x :: r, h => by
    have hx : seq x s = false := by
      cases q : seq x s with
      | false => rfl
      | true => exact absurd ((seq_iff x s).1 q) (fun e => h (by rw [e]; simp))
    unfold cntS
    rw [hx, cnt_no (fun q => h (List.mem_cons_of_mem _ q))]; rfl
theorem cnt_ins {s : ByteArray} : ∀ {l : List ByteArray}, s ∉ l → cntS s (insL s l) = 1
  | [], _ => by simp [insL, cntS, seq_refl]
  | x :: r, h => by
    have hx : seq x s = false := by
      cases q : seq x s with
      | false => rfl
      | true => exact absurd ((seq_iff x s).1 q) (fun e => h (by rw [e]; simp))
    unfold insL
    split
    · unfold cntS; rw [hx, cnt_ins (fun q => h (List.mem_cons_of_mem _ q))]; rfl
    · unfold cntS; rw [seq_refl, cnt_no h]; rfl
theorem holds_l0 (l : List ByteArray) (s : ByteArray) (h : l.length ≤ 1000) : law07_RuleHolds.l0 l s FU 0 0 = some (cntS s l : Int) := by
  have := loopNI l.length (by omega) (fun k i (n : Int) => law07_RuleHolds.l0 l s k n i) (fun i n => some (n + (cntS s (l.drop i) : Int))) (fun i n => 0 ≤ n ∧ n ≤ (i : Int))
    (fun k n hn => by
      have hd : decide (((l.length : Nat) : Int) < (l.length : Int)) = false := by simp
      simp [law07_RuleHolds.l0, cntS])
    (fun k i hi hw n hn ih => by
      have hd : decide ((i : Int) < (l.length : Int)) = true := by simp; omega
      have hg : 0 ≤ (i : Int) ∧ (i : Int) < (l.length : Int) := ⟨by omega, by omega⟩
      have hcons : l.drop i = l[i] :: l.drop (i + 1) := List.drop_eq_getElem_cons hi
      simp only [law07_RuleHolds.l0, hd, if_true, hg, and_self, gt_nat l i hi, hw, hcons, cntS]
      cases q : seq l[i] s with
      | true =>
        simp only [if_true, Option.bind_some]
        rw [wi64_id (by omega), ih (n + 1) (by omega)]
        simp; omega
      | false =>
        simp only [Bool.false_eq_true, if_false, Option.bind_some]
        rw [ih n (by omega)]
        simp) 0 (by simp)
  rw [this]; simp
theorem law07_RuleHolds_eq (i : Int) (nm da : ByteArray) (sd : Bool) (un : Int) (l : List ByteArray) (s : ByteArray) : law07_RuleHolds i nm da sd un l s = some true := by
  unfold law07_RuleHolds
  simp only [works07, Option.bind_some, Bool.not_true, Bool.false_eq_true, if_false, Few7_eq, if_true]
  cases hf : fewB nm da l with
  | false => rfl
  | true =>
    have hl := fewB_small hf
    have hfw := fewB_ok hf
    simp only [Bool.not_true, Bool.false_eq_true, if_false, Option.bind_some]
    by_cases hs : (s.size : Int) > 200
    · simp [hs]
    · have hs' : s.size ≤ 1000 := by omega
      simp only [hs, decide_false, Bool.false_eq_true, if_false, Option.bind_some, Hold_eq _ _ _ _ _ hl hs']
      have hsm : smallL (holdF sd l s).1 := holdF_small hfw (by omega)
      simp only [Hold_eq _ _ _ _ _ hsm hs', Release_eq _ _ _ _ _ hsm.1, Option.bind_some, holds_l0 _ _ hsm.1]
      cases sd with
      | false => simp [holdF, Same_eq _ _ _ _ _ l l (by omega)]
      | true =>
        cases hv : vN s with
        | false => simp [holdF, hv, Same_eq _ _ _ _ _ l l (by omega)]
        | true =>
          cases hh : hasS l s with
          | true => simp [holdF, hv, hh, Same_eq _ _ _ _ _ l l (by omega)]
          | false =>
            by_cases h4 : 4 ≤ l.length
            · simp [holdF, hv, hh, h4, Same_eq _ _ _ _ _ l l (by omega)]
            · have hn : s ∉ l := fun q => by rw [hasS_iff.2 q] at hh; cases hh
              have e : holdF true l s = (insL s l, 0) := by simp [holdF, hv, hh, h4]
              have e2 : hasS (insL s l) s = true := hasS_iff.2 ((insL_mem s l).2 (.inl rfl))
              have e3 : holdF true (insL s l) s = (insL s l, 4) := by simp [holdF, hv, e2]
              have e4 : relF (insL s l) s = (l, 0) := by simp [relF, e2, del_ins hn]
              have hw : wi64 ((l.length : Int) + 1) = (l.length : Int) + 1 := wi64_id (by omega)
              simp [e, e3, e4, cnt_ins hn, insL_len, hw, Same_eq _ _ _ _ _ l l (by omega)]
end Go.Cen
