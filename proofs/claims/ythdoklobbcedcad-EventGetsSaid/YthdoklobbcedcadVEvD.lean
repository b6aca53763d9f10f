/- EVENT: bytes tell the event. -/
import Derived.Test.YthdoklobbcedcadVEvC
set_option linter.unusedVariables false
set_option linter.unusedSimpArgs false
namespace Go.Cen
theorem eq_event_iff (a b : ApiEvent) : eq_ApiEvent a b = true ↔ a = b := by
  cases a; cases b
  simp [eq_ApiEvent, seq_iff, eqA_iff]
theorem event_eta (a : ApiEvent) : eq_ApiEvent a a = true := (eq_event_iff a a).2 rfl
/-- what an event that may be is -/
theorem valid_form {e : ApiEvent} (h : okE e) (hv : validE e = true) : partsE e ≠ [] ∧ ofE e = e ∧ namedL (partsE e) true = true ∧ (e.Kind = 7 ∨ idOk e.ID = true) ∧ timeOk e.Time = true ∧ lenOk (leastE e) e.Len = true := by
  have h1 := event_Valid_raw h
  rw [event_Valid_eq h, hv] at h1
  have h2 := (someS h1).symm
  by_cases hk : partsE e = []
  · rw [if_pos hk] at h2; cases h2
  · rw [if_neg hk] at h2
    simp only [Bool.and_eq_true, Bool.or_eq_true, beq_iff_eq] at h2
    obtain ⟨a, b, c, d, f⟩ := h2
    exact ⟨hk, (eq_event_iff _ _).1 a, b, c, d, f⟩
theorem valid_kind {e : ApiEvent} (hv : validE e = true) : 0 ≤ e.Kind ∧ e.Kind ≤ 7 := by
  rcases kinds e.Kind with k | k | k | k | k | k | k | k | ⟨k0, k4, k5, k1, k2, k3, k6, k7⟩
  case inr.inr.inr.inr.inr.inr.inr.inr => simp [validE, k0, k1, k2, k3, k4, k5, k6, k7] at hv
  all_goals omega
theorem valid_nums {e : ApiEvent} (h : okE e) (hv : validE e = true) : (0 ≤ e.ID ∧ e.ID ≤ 1099511627776) ∧ (0 ≤ e.Time ∧ e.Time ≤ 1099511627776) ∧ (0 ≤ e.Len ∧ e.Len ≤ 600) := by
  obtain ⟨h1, h2, h3, h4, h5, h6⟩ := valid_form h hv
  simp only [timeOk, lenOk, Bool.and_eq_true, decide_eq_true_eq] at h5 h6
  have hl : leastE e = 0 ∨ leastE e = 1 := by unfold leastE; split <;> simp
  refine ⟨?_, h5, by omega⟩
  rcases h4 with h4 | h4
  · have : (ofE e).ID = 0 := by simp [ofE, h4]
    rw [h2] at this; omega
  · simp only [idOk, Bool.and_eq_true, decide_eq_true_eq] at h4; omega
end Go.Cen
