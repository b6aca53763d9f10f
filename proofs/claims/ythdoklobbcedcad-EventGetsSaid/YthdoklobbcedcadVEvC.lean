/- EVENT: bytes; the reference. -/
import Derived.Test.YthdoklobbcedcadVEvB
import Derived.Test.YthdoklobbcedcadVTNameK
set_option linter.unusedVariables false
set_option linter.unusedSimpArgs false
namespace Go.Cen
def putE (e : ApiEvent) : List Int := numL (clampN e.Kind) ++ (partsE e).flatMap bytD
theorem ref03_Valid_eq (s : ByteArray) (h : s.size ≤ 100000) : ref03_Valid s = some (nmOk s) := by
  have := ref03_Valid_str (l := byts s) (byts_isB s) (by rw [byts_len]; exact h)
  rwa [strOfNums_byts] at this
def tells5 (k : Int) : List Bool := if k = 0 ∨ k = 4 ∨ k = 5 then [true, true, false, false, false] else if k = 1 then [true, false, false, true, false] else if k = 2 then [true, false, true, true, true]
  else if k = 3 then [true, false, true, false, false] else if k = 6 then [true, false, false, false, false] else if k = 7 then [false, false, true, false, false] else [false, false, false, false, false]
theorem tells_eq (k : Int) : ref05_tells k = some (tells5 k) := by
  unfold ref05_tells tells5
  rcases kinds k with k | k | k | k | k | k | k | k | ⟨k0, k4, k5, k1, k2, k3, k6, k7⟩
  all_goals first
    | (subst k; rfl)
    | simp [k0, k1, k2, k3, k4, k5, k6, k7]
theorem gtB (a b c d e : Bool) : gt [a, b, c, d, e] 0 = a ∧ gt [a, b, c, d, e] 1 = b ∧ gt [a, b, c, d, e] 2 = c ∧ gt [a, b, c, d, e] 3 = d ∧ gt [a, b, c, d, e] 4 = e := ⟨rfl, rfl, rfl, rfl, rfl⟩
set_option maxHeartbeats 2000000 in
theorem ref05_Valid_eq {e : ApiEvent} (h : okE e) : ref05_Valid e = some (validE e) := by
  unfold ref05_Valid
  rw [tells_eq, ref03_Valid_eq _ h.1]
  rcases kinds e.Kind with k | k | k | k | k | k | k | k | ⟨k0, k4, k5, k1, k2, k3, k6, k7⟩
  case inr.inr.inr.inr.inr.inr.inr.inr =>
    have : (if decide (e.Kind < 0) = true then some true else some (decide (e.Kind > 7))) = some true := by
      by_cases q : e.Kind < 0
      · simp [q]
      · have : e.Kind > 7 := by omega
        simp [this]
    rw [this]
    simp [validE, k0, k1, k2, k3, k4, k5, k6, k7]
  all_goals
    have hz : eqA e.Sum ([0, 0, 0, 0, 0, 0, 0, 0, 0, 0, 0, 0, 0, 0, 0, 0, 0, 0, 0, 0, 0, 0, 0, 0, 0, 0, 0, 0, 0, 0, 0, 0] : List Int) = noD e.Sum := rfl
    simp [k, tells5, validE, (gtB _ _ _ _ _).1, (gtB _ _ _ _ _).2.1, (gtB _ _ _ _ _).2.2.1, (gtB _ _ _ _ _).2.2.2.1, (gtB _ _ _ _ _).2.2.2.2, hz]
    have r1 : ∀ a b x : Int, (if a ≤ x then if x ≤ b then some true else some false else some false) = some (decide (a ≤ x) && decide (x ≤ b)) := fun a b x => by
      by_cases q : a ≤ x <;> by_cases q' : x ≤ b <;> simp [q, q']
    have r2 : ∀ b : Bool, (if b = true then some true else some false) = some b := fun b => by cases b <;> rfl
    have e1 : seq e.Name (⟨#[]⟩ : ByteArray) = noS e.Name := rfl
    simp only [r1, r2, Option.bind_some, e1]
    have e2 : (decide (1 ≤ e.ID) && decide (e.ID ≤ 1099511627776)) = idOk e.ID := rfl
    have e3 : (decide (0 ≤ e.Time) && decide (e.Time ≤ 1099511627776)) = timeOk e.Time := rfl
    have e4 : (decide (0 ≤ e.Len) && decide (e.Len ≤ 600)) = lenOk 0 e.Len := rfl
    have e5 : (decide (1 ≤ e.Len) && decide (e.Len ≤ 600)) = lenOk 1 e.Len := rfl
    (try simp only [e2, e3, e4, e5])
    clear e2 e3 e4 e5 r1 r2 e1
    generalize lenOk 1 e.Len = b1
    generalize lenOk 0 e.Len = b0
    generalize timeOk e.Time = bt
    generalize idOk e.ID = bi
    generalize noS e.Name = bs
    generalize nmOk e.Name = bn
    by_cases hT : e.Time = 0 <;> by_cases hL : e.Len = 0 <;> by_cases hI : e.ID = 0
    all_goals
      cases bs <;> cases bi <;> simp [hT, hL, hI]
    all_goals
      cases bn <;> cases bt <;> cases b0 <;> cases b1 <;> (try simp)
end Go.Cen
