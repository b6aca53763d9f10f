/- FILE: which may be; what is sealed stays. -/
import Derived.Test.YthdoklobbcedcadDoorFiB
set_option linter.unusedVariables false
set_option linter.unusedSimpArgs false
set_option maxRecDepth 100000
namespace Go.Cen
/-! ### whatever is done -/
def fewO (f : Fi) (o : ApiOp) : Bool := fewB f.nm f.da f.ho && (decide (o.Text.size ≤ 700) && decide (o.Name.size ≤ 700))
theorem fewO_eq (f : Fi) (o : ApiOp) : law08_few f.id f.nm f.da f.sd f.un f.ho o = some (fewO f o) := by
  unfold law08_few fewO
  rw [Few7_eq]
  cases fewB f.nm f.da f.ho with
  | false => rfl
  | true =>
    have e1 : decide ((o.Text.size : Int) ≤ 700) = decide (o.Text.size ≤ 700) := decide_eq_decide.2 (by omega)
    have e2 : decide ((o.Name.size : Int) ≤ 700) = decide (o.Name.size ≤ 700) := decide_eq_decide.2 (by omega)
    simp only [Option.bind_some, if_true, e1, e2, Bool.true_and]
    cases decide (o.Text.size ≤ 700) <;> rfl
theorem fewO_do {f : Fi} {o : ApiOp} (h : fewO f o = true) (fl : Int) : file_Do f.id f.nm f.da f.sd f.un f.ho o fl = some (tupD (doF f o fl)) := by
  simp only [fewO, Bool.and_eq_true, decide_eq_true_eq] at h
  have := few_all h.1
  exact Do_eq f o fl (fewB_small h.1) (by omega) (by omega)
theorem do_sealed {f : Fi} (hs : f.sd = true) (o : ApiOp) (fl : Int) : (o.Kind = 1 → (doF f o fl).2.2 = 5) ∧ (o.Kind = 2 → (doF f o fl).2.2 = 5) ∧ (o.Kind = 0 → (doF f o fl).2.2 = 4) ∧
    (o.Kind = 6 → (doF f o fl).2.2 = 0 → keptF f.sd f.un f.ho fl = false) ∧ (¬ (o.Kind = 6 ∧ (doF f o fl).2.2 = 0) → (doF f o fl).1.da = f.da ∧ (doF f o fl).1.sd = true ∧ f.un ≤ (doF f o fl).1.un) := by
  have hr : (doF f o fl).2.2 = (effF f o fl).2 := by
    unfold doF; split
    · rename_i h; exact h.symm
    · rfl
  have key : (¬ (o.Kind = 6) → (effF f o fl).2 = 0 → (effF f o fl).1.da = f.da ∧ (effF f o fl).1.sd = true ∧ f.un ≤ (effF f o fl).1.un) := by
    intro h6 h0
    unfold effF at h0 ⊢
    by_cases k1 : o.Kind = 1
    · simp [k1, appF, hs] at h0
    by_cases k4 : o.Kind = 4
    · simp [k4, hs]
    by_cases k5 : o.Kind = 5
    · simp [k5, hs]
    by_cases k2 : o.Kind = 2
    · simp [k2, hs] at h0
    by_cases k3 : o.Kind = 3
    · simp only [k3, hs, extF] at h0 ⊢
      cases ht : timeB o.Time with
      | false => simp [ht] at h0
      | true =>
        by_cases q : o.Time < f.un
        · simp [ht, q] at h0
        · simp [ht, q, hs]; omega
    simp [k1, k2, k3, k4, k5, h6, hs]
  refine ⟨fun k => ?_, fun k => ?_, fun k => ?_, fun k h => ?_, fun h => ?_⟩
  · rw [hr]; simp [effF, k, appF, hs]
  · rw [hr]; simp [effF, k, hs]
  · rw [hr]; simp [effF, k]
  · rw [hr] at h
    simp only [effF, k] at h
    simp at h
    unfold mayF at h; unfold keptF
    rw [hs] at h ⊢
    by_cases q : fl < f.un
    · simp [q] at h
    · by_cases q2 : f.ho = []
      · simp [q, q2]
      · simp [q, q2] at h
  · rw [hr] at h
    by_cases h0 : (effF f o fl).2 = 0
    · have h6 : ¬ o.Kind = 6 := fun k => h ⟨k, h0⟩
      have : doF f o fl = ((effF f o fl).1, tellF f o, 0) := by unfold doF; rw [if_pos h0]
      rw [this]; exact key h6 h0
    · have : doF f o fl = (f, ev0, (effF f o fl).2) := by unfold doF; rw [if_neg h0]
      rw [this]; exact ⟨rfl, hs, Int.le_refl _⟩
end Go.Cen
