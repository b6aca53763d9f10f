/- RULE: the laws on one file. -/
import Derived.Test.YthdoklobbcedcadDoorFRuA
set_option linter.unusedVariables false
set_option linter.unusedSimpArgs false
set_option maxRecDepth 100000
namespace Go.Cen
/-! ### how much is looked at -/
def fewB (nm da : ByteArray) (l : List ByteArray) : Bool := (l.take 201).all (fun e => decide (e.size ≤ 200)) && (decide (l.length ≤ 200) && (decide (da.size ≤ 2000) && decide (nm.size ≤ 200)))
theorem fewF_l0 (l : List ByteArray) : ∀ (d i k : Nat), d + i = 201 → i ≤ l.length → d < k → law07_Few.l0 l k (i : Int) = some (if ((l.drop i).take d).all (fun e => decide (e.size ≤ 200)) = true then .inr () else .inl false) := by
  intro d
  induction d with
  | zero =>
    intro i k h1 h2 h3
    obtain ⟨k, rfl⟩ : ∃ m, k = m + 1 := ⟨k - 1, by omega⟩
    have hi : i = 201 := by omega
    subst hi
    by_cases h : (201 : Nat) < l.length
    · have hd : decide ((((201 : Nat)) : Int) < (l.length : Int)) = true := by simp; omega
      have : decide ((((201 : Nat)) : Int) ≤ 200) = false := by decide
      simp [law07_Few.l0, hd, this]
    · have hd : decide ((((201 : Nat)) : Int) < (l.length : Int)) = false := by simp; omega
      simp [law07_Few.l0, hd]
  | succ d ih =>
    intro i k h1 h2 h3
    obtain ⟨k, rfl⟩ : ∃ m, k = m + 1 := ⟨k - 1, by omega⟩
    by_cases h : i < l.length
    · have hd : decide ((i : Int) < (l.length : Int)) = true := by simp; omega
      have h20 : decide ((i : Int) ≤ 200) = true := by simp; omega
      have hg : 0 ≤ (i : Int) ∧ (i : Int) < (l.length : Int) := ⟨by omega, by omega⟩
      have hw : wi64 ((i : Int) + 1) = ((i + 1 : Nat) : Int) := by rw [wi64_id (by omega)]; omega
      have hcons : l.drop i = l[i] :: l.drop (i + 1) := List.drop_eq_getElem_cons h
      simp only [law07_Few.l0, hd, h20, if_true, Option.bind_some, hg, and_self, gt_nat l i h, hw]
      rw [ih (i + 1) k (by omega) (by omega) (by omega), hcons]
      simp only [List.take_succ_cons, List.all_cons]
      by_cases q : (l[i].size : Int) > 200
      · have q' : ¬ l[i].size ≤ 200 := by omega
        simp [q, q']
      · have q' : l[i].size ≤ 200 := by omega
        simp [q, q']
    · have hd : decide ((i : Int) < (l.length : Int)) = false := by simp; omega
      have hz : l.drop i = [] := List.drop_eq_nil_iff.2 (by omega)
      simp only [law07_Few.l0, hd, hz]
      simp
theorem Few7_eq (i : Int) (nm da : ByteArray) (sd : Bool) (un : Int) (l : List ByteArray) : law07_Few i nm da sd un l = some (fewB nm da l) := by
  have hF : FU = 18446744073709551616 := rfl
  have := fewF_l0 l 201 0 FU (by omega) (by omega) (by omega)
  unfold law07_Few fewB
  rw [show law07_Few.l0 l FU 0 = _ from this]
  simp only [List.drop_zero, Option.bind_some]
  cases (l.take 201).all (fun e => decide (e.size ≤ 200)) with
  | false => rfl
  | true =>
    simp only [if_true, Bool.true_and]
    have e1 : decide ((l.length : Int) ≤ 200) = decide (l.length ≤ 200) := decide_eq_decide.2 (by omega)
    have e2 : decide ((da.size : Int) ≤ 2000) = decide (da.size ≤ 2000) := decide_eq_decide.2 (by omega)
    have e3 : decide ((nm.size : Int) ≤ 200) = decide (nm.size ≤ 200) := decide_eq_decide.2 (by omega)
    rw [e1, e2, e3]
    cases decide (l.length ≤ 200) <;> cases decide (da.size ≤ 2000) <;> rfl
theorem fewB_ok {nm da : ByteArray} {l : List ByteArray} (h : fewB nm da l = true) : l.length ≤ 200 ∧ ∀ x ∈ l, x.size ≤ 200 := by
  simp only [fewB, Bool.and_eq_true, decide_eq_true_eq] at h
  refine ⟨h.2.1, fun e he => ?_⟩
  have ht : l.take 201 = l := List.take_of_length_le (by omega)
  rw [ht] at h
  have := List.all_eq_true.1 h.1 e he
  simpa using this
theorem fewB_small {nm da : ByteArray} {l : List ByteArray} (h : fewB nm da l = true) : smallL l :=
  ⟨by have := (fewB_ok h).1; omega, fun x hx => by have := (fewB_ok h).2 x hx; omega⟩
/-! ### the laws -/
theorem seq_refl (s : ByteArray) : seq s s = true := (seq_iff s s).2 rfl
end Go.Cen
