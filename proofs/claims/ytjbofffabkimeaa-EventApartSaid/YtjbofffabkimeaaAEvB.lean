/- EVENT: whether an event may be, and its bytes: both sides. -/
import Derived.Test.YtjbofffabkimeaaAEvA
set_option linter.unusedVariables false
set_option linter.unusedSimpArgs false
namespace Go.Cen
def ofE (e : ApiEvent) : ApiEvent :=
  if e.Kind = 0 ∨ e.Kind = 4 ∨ e.Kind = 5 then ⟨e.Kind, e.ID, e.Name, 0, 0, z32⟩ else if e.Kind = 1 then ⟨e.Kind, e.ID, ⟨#[]⟩, 0, e.Len, z32⟩ else if e.Kind = 2 then ⟨e.Kind, e.ID, ⟨#[]⟩, e.Time, e.Len, e.Sum⟩
  else if e.Kind = 3 then ⟨e.Kind, e.ID, ⟨#[]⟩, e.Time, 0, z32⟩ else if e.Kind = 6 then ⟨e.Kind, e.ID, ⟨#[]⟩, 0, 0, z32⟩ else ⟨e.Kind, 0, ⟨#[]⟩, e.Time, 0, z32⟩
theorem of_l0' {k : Int} {l : List Dyn43} (hl : ∀ d ∈ l, okD d) (hn : l.length ≤ 1000) : event_of.l0 l FU ([] : List Int) 0 (ApiEvent.mk k 0 (⟨#[]⟩ : ByteArray) 0 0 (List.replicate 32 (0 : Int))) = some (nums l, upd l ⟨k, 0, ⟨#[]⟩, 0, 0, z32⟩) := of_l0 l hl hn _
theorem gt2 (a b c : Int) : gt [a, b, c] 2 = c := rfl
theorem gt1 (a b : Int) (r : List Int) : gt (a :: b :: r) 1 = b := rfl
theorem gt0' (a : Int) (r : List Int) : gt (a :: r) 0 = a := rfl
theorem kinds (k : Int) : k = 0 ∨ k = 4 ∨ k = 5 ∨ k = 1 ∨ k = 2 ∨ k = 3 ∨ k = 6 ∨ k = 7 ∨ (k ≠ 0 ∧ k ≠ 4 ∧ k ≠ 5 ∧ k ≠ 1 ∧ k ≠ 2 ∧ k ≠ 3 ∧ k ≠ 6 ∧ k ≠ 7) := by omega
theorem of_eq {e : ApiEvent} (h : okE e) (hk : partsE e ≠ []) : event_of e.Kind (partsE e) = some (ofE e) := by
  have hp := parts_ok h
  have hl := parts_len e
  unfold event_of
  rw [of_l0' hp (by omega)]
  rcases kinds e.Kind with k | k | k | k | k | k | k | k | ⟨k0, k4, k5, k1, k2, k3, k6, k7⟩
  all_goals first
    | (simp [partsE, ofE, k, nums, upd, gt2, gt1, gt0']; done)
    | (exfalso; exact hk (by simp [partsE, k0, k1, k2, k3, k4, k5, k6, k7]))
def leastE (e : ApiEvent) : Int := if e.Kind = 1 then 1 else 0
theorem event_Valid_raw {e : ApiEvent} (h : okE e) : event_Valid e = some (if partsE e = [] then false else (eq_ApiEvent (ofE e) e && (namedL (partsE e) true && ((e.Kind == 7 || idOk e.ID) && (timeOk e.Time && lenOk (leastE e) e.Len))))) := by
  have hp := parts_ok h
  have hl := parts_len e
  unfold event_Valid
  rw [parts_eq]
  simp only [Option.bind_some]
  by_cases hk : partsE e = []
  · rw [if_pos hk]
    simp [hk]
  · have hn : (((partsE e).length : Int) == 0) = false := by
      have := List.length_pos_iff.2 hk
      simp; exact hk
    rw [if_neg hk, hn, of_eq h hk]
    simp only [Bool.false_eq_true, if_false, Option.bind_some, valid_l0 _ hp (by omega), within_eq]
    have hm : (if (e.Kind == 1) = true then some (1 : Int) else some 0) = some (leastE e) := by unfold leastE; by_cases q : e.Kind = 1 <;> simp [q]
    rw [hm]
    simp only [Option.bind_some, idOk, timeOk, lenOk]
    cases eq_ApiEvent (ofE e) e <;> cases namedL (partsE e) true <;> cases q : e.Kind == 7 <;> cases (decide (1 ≤ e.ID) && decide (e.ID ≤ 1099511627776)) <;> cases (decide (0 ≤ e.Time) && decide (e.Time ≤ 1099511627776)) <;> simp [q]
theorem event_Valid_eq {e : ApiEvent} (h : okE e) : event_Valid e = some (validE e) := by
  rw [event_Valid_raw h]
  congr 1
  rcases kinds e.Kind with k | k | k | k | k | k | k | k | ⟨k0, k4, k5, k1, k2, k3, k6, k7⟩
  case inr.inr.inr.inr.inr.inr.inr.inr => simp [partsE, validE, k0, k1, k2, k3, k4, k5, k6, k7]
  all_goals
    have a1 : seq (⟨#[]⟩ : ByteArray) e.Name = noS e.Name := seq_symm _ _
    have a2 : eqA z32 e.Sum = noD e.Sum := eqA_symm _ _
    have t0 : timeOk 0 = true := rfl
    have l0 : lenOk 0 0 = true := rfl
    have hT' : (0 : Int) = e.Time ↔ e.Time = 0 := eq_comm
    have hL' : (0 : Int) = e.Len ↔ e.Len = 0 := eq_comm
    have hI' : (0 : Int) = e.ID ↔ e.ID = 0 := eq_comm
    simp [partsE, validE, ofE, leastE, k, eq_ApiEvent, namedL, a1, a2, hT', hL', hI', seq_refl, eqA_refl]
    have bT : ((0 : Int) == e.Time) = (e.Time == 0) := BEq.comm
    have bL : ((0 : Int) == e.Len) = (e.Len == 0) := BEq.comm
    have bI : ((0 : Int) == e.ID) = (e.ID == 0) := BEq.comm
    have cT : (e.Time == 0) = true → timeOk e.Time = true := fun h => by rw [beq_iff_eq.1 h]; rfl
    have cL : (e.Len == 0) = true → lenOk 0 e.Len = true := fun h => by rw [beq_iff_eq.1 h]; rfl
    (try simp only [bT, bL, bI])
    cases hT : (e.Time == 0) <;> cases hL : (e.Len == 0)
    all_goals
      (try rw [cT hT]) <;> (try rw [cL hL])
    all_goals (try simp only [Bool.false_and, Bool.and_false, Bool.true_and, Bool.and_true])
    all_goals (try ac_rfl)
end Go.Cen
