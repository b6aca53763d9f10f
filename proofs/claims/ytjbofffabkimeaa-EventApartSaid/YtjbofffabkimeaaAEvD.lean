/- EVENT: bytes tell the event. -/
import Derived.Test.YtjbofffabkimeaaAEvC
set_option linter.unusedVariables false
set_option linter.unusedSimpArgs false
namespace Go.Cen
theorem eq_event_iff (a b : ApiEvent) : eq_ApiEvent a b = true ↔ a = b := by
  cases a; cases b
  simp [eq_ApiEvent, seq_iff, eqA_iff]
theorem event_eta (a : ApiEvent) : eq_ApiEvent a a = true := (eq_event_iff a a).2 rfl
/-- what an event that may be is -/
theorem valid_form {e : ApiEvent} (h : okE e) (hv : validE e = true) : partsE e ≠ [] ∧ ofE e = e ∧ namedL (partsE e) true = true ∧ (e.Kind = 7 ∨ idOk e.ID = true) ∧ timeOk e.Time = true ∧ lenOk (leastE e) e.Len = true := by
  have h1 := event_Valid_raw h
  rw [event_Valid_eq h, hv] at h1
  have h2 := (someS h1).symm
  by_cases hk : partsE e = []
  · rw [if_pos hk] at h2; cases h2
  · rw [if_neg hk] at h2
    simp only [Bool.and_eq_true, Bool.or_eq_true, beq_iff_eq] at h2
    obtain ⟨a, b, c, d, f⟩ := h2
    exact ⟨hk, (eq_event_iff _ _).1 a, b, c, d, f⟩
theorem valid_kind {e : ApiEvent} (hv : validE e = true) : 0 ≤ e.Kind ∧ e.Kind ≤ 7 := by
  rcases kinds e.Kind with k | k | k | k | k | k | k | k | ⟨k0, k4, k5, k1, k2, k3, k6, k7⟩
  case inr.inr.inr.inr.inr.inr.inr.inr => simp [validE, k0, k1, k2, k3, k4, k5, k6, k7] at hv
  all_goals omega
theorem valid_nums {e : ApiEvent} (h : okE e) (hv : validE e = true) : (0 ≤ e.ID ∧ e.ID ≤ 1099511627776) ∧ (0 ≤ e.Time ∧ e.Time ≤ 1099511627776) ∧ (0 ≤ e.Len ∧ e.Len ≤ 600) := by
  obtain ⟨h1, h2, h3, h4, h5, h6⟩ := valid_form h hv
  simp only [timeOk, lenOk, Bool.and_eq_true, decide_eq_true_eq] at h5 h6
  have hl : leastE e = 0 ∨ leastE e = 1 := by unfold leastE; split <;> simp
  refine ⟨?_, h5, by omega⟩
  rcases h4 with h4 | h4
  · have : (ofE e).ID = 0 := by simp [ofE, h4]
    rw [h2] at this; omega
  · simp only [idOk, Bool.and_eq_true, decide_eq_true_eq] at h4; omega
theorem num_inj {a b : Int} {r s : List Int} (ha : 0 ≤ a ∧ a ≤ 1125899906842624) (hb : 0 ≤ b ∧ b ≤ 1125899906842624) (h : numL (clampN a) ++ r = numL (clampN b) ++ s) : a = b ∧ r = s := by
  obtain ⟨h1, h2⟩ := numL_inj (clampN_le a) (clampN_le b) h
  refine ⟨?_, h2⟩
  rw [← clampN_id ha.1 ha.2, ← clampN_id hb.1 hb.2, h1]
theorem text_inj {a b : ByteArray} {r s : List Int} (ha : a.size ≤ 100000) (hb : b.size ≤ 100000) (h : numL (clampN (a.size : Int)) ++ (byts a ++ r) = numL (clampN (b.size : Int)) ++ (byts b ++ s)) : a = b ∧ r = s := by
  obtain ⟨h1, h2⟩ := num_inj ⟨by omega, by omega⟩ ⟨by omega, by omega⟩ h
  obtain ⟨h3, h4⟩ := List.append_inj h2 (by rw [byts_len, byts_len]; omega)
  exact ⟨byts_inj h3, h4⟩
theorem putE_inj {a b : ApiEvent} (ha : okE a) (hb : okE b) (va : validE a = true) (vb : validE b = true) {r s : List Int} (h : putE a ++ r = putE b ++ s) : a = b ∧ r = s := by
  have ka := valid_kind va
  have kb := valid_kind vb
  obtain ⟨a1, a2, a3⟩ := valid_nums ha va
  obtain ⟨b1, b2, b3⟩ := valid_nums hb vb
  have oa := (valid_form ha va).2.1
  have ob := (valid_form hb vb).2.1
  have na := ha.1
  have nb := hb.1
  have sa := ha.2.1
  have sb := hb.2.1
  unfold putE at h
  rw [List.append_assoc, List.append_assoc] at h
  obtain ⟨hk, h⟩ := num_inj ⟨by omega, by omega⟩ ⟨by omega, by omega⟩ h
  have fin : ofE a = ofE b → r = s → a = b ∧ r = s := fun h1 h2 => ⟨by rw [← oa, ← ob, h1], h2⟩
  rcases kinds a.Kind with k | k | k | k | k | k | k | k | ⟨k0, k4, k5, k1, k2, k3, k6, k7⟩
  case inr.inr.inr.inr.inr.inr.inr.inr => omega
  all_goals
    have k' : b.Kind = _ := hk.symm.trans k
    simp only [partsE, k, k', Int.reduceEq, or_true, true_or, or_false, false_or, or_self, if_true, if_false, List.flatMap_cons, List.flatMap_nil, List.append_nil, bytD, List.append_assoc, reduceCtorEq] at h
  · obtain ⟨q1, h⟩ := num_inj ⟨by omega, by omega⟩ ⟨by omega, by omega⟩ h
    obtain ⟨q2, h⟩ := text_inj na nb h
    exact fin (by simp [ofE, k, k', q1, q2]) h
  · obtain ⟨q1, h⟩ := num_inj ⟨by omega, by omega⟩ ⟨by omega, by omega⟩ h
    obtain ⟨q2, h⟩ := text_inj na nb h
    exact fin (by simp [ofE, k, k', q1, q2]) h
  · obtain ⟨q1, h⟩ := num_inj ⟨by omega, by omega⟩ ⟨by omega, by omega⟩ h
    obtain ⟨q2, h⟩ := text_inj na nb h
    exact fin (by simp [ofE, k, k', q1, q2]) h
  · obtain ⟨q1, h⟩ := num_inj ⟨by omega, by omega⟩ ⟨by omega, by omega⟩ h
    obtain ⟨q2, h⟩ := num_inj ⟨by omega, by omega⟩ ⟨by omega, by omega⟩ h
    exact fin (by simp [ofE, k, k', q1, q2]) h
  · obtain ⟨q1, h⟩ := num_inj ⟨by omega, by omega⟩ ⟨by omega, by omega⟩ h
    obtain ⟨q2, h⟩ := num_inj ⟨by omega, by omega⟩ ⟨by omega, by omega⟩ h
    obtain ⟨q3, h⟩ := num_inj ⟨by omega, by omega⟩ ⟨by omega, by omega⟩ h
    obtain ⟨q4, h⟩ := List.append_inj h (by omega)
    exact fin (by simp [ofE, k, k', q1, q2, q3, q4]) h
  · obtain ⟨q1, h⟩ := num_inj ⟨by omega, by omega⟩ ⟨by omega, by omega⟩ h
    obtain ⟨q2, h⟩ := num_inj ⟨by omega, by omega⟩ ⟨by omega, by omega⟩ h
    exact fin (by simp [ofE, k, k', q1, q2]) h
  · obtain ⟨q1, h⟩ := num_inj ⟨by omega, by omega⟩ ⟨by omega, by omega⟩ h
    exact fin (by simp [ofE, k, k', q1]) h
  · obtain ⟨q1, h⟩ := num_inj ⟨by omega, by omega⟩ ⟨by omega, by omega⟩ h
    exact fin (by simp [ofE, k, k', q1]) h
end Go.Cen
