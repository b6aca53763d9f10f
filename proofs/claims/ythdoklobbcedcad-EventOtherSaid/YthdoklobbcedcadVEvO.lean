/- EVENT: what is not told is nothing. -/
import Derived.Test.YthdoklobbcedcadVEvL
set_option linter.unusedVariables false
set_option linter.unusedSimpArgs false
set_option maxRecDepth 100000
namespace Go.Cen
abbrev nx1 : ByteArray := ⟨#[120]⟩
theorem noS_x : noS nx1 = false := by decide +kernel
theorem law05_EventOther_eq (e : ApiEvent) (n : Int) (d : List Int) (h1 : e.Sum.length = 32) (h2 : isB e.Sum) (h3 : d.length = 32) (h4 : isB d) : law05_EventOther e n d = some true := by
  unfold law05_EventOther
  simp only [works05, Option.bind_some, Bool.not_true, Bool.false_eq_true, if_false]
  by_cases hn : (e.Name.size : Int) > 300
  · simp [hn]
  by_cases hz : n = 0
  · simp [hn, hz]
  have h : okE e := ⟨by omega, h1, h2⟩
  have hz' : (n == 0) = false := by simp [hz]
  simp only [hn, decide_false, Bool.false_eq_true, if_false, hz', event_Valid_eq h, Option.bind_some]
  cases hv : validE e with
  | false => rfl
  | true =>
    have A : ∀ k i t l, event_Valid ⟨k, i, e.Name, t, l, e.Sum⟩ = some (validE ⟨k, i, e.Name, t, l, e.Sum⟩) := fun k i t l => event_Valid_eq ⟨by show e.Name.size ≤ _; omega, h1, h2⟩
    have B : ∀ k i t l, event_Valid ⟨k, i, nx1, t, l, e.Sum⟩ = some (validE ⟨k, i, nx1, t, l, e.Sum⟩) := fun k i t l => event_Valid_eq ⟨by show (1 : Nat) ≤ _; omega, h1, h2⟩
    have C : ∀ k i t l, event_Valid ⟨k, i, e.Name, t, l, d⟩ = some (validE ⟨k, i, e.Name, t, l, d⟩) := fun k i t l => event_Valid_eq ⟨by show e.Name.size ≤ _; omega, h3, h4⟩
    have hd : ∀ q : Bool, (noD d == q) = (eqA d z32 == q) := fun q => rfl
    rcases kinds e.Kind with k | k | k | k | k | k | k | k | ⟨k0, k4, k5, k1, k2, k3, k6, k7⟩
    case inr.inr.inr.inr.inr.inr.inr.inr => simp [validE, k0, k1, k2, k3, k4, k5, k6, k7] at hv
    all_goals simp [validE, k] at hv
    · simp [k, A, B, C, validE, hz', hv, noD, z32]
    · simp [k, A, B, C, validE, hz', hv, noD, z32]
    · simp [k, A, B, C, validE, hz', hv, noD, z32]
    · simp [k, A, B, C, validE, hz', hv, noS_x, noD, z32]
    · simp [k, A, B, C, validE, hz', hv, noS_x, noD, z32]
    · simp [k, A, B, C, validE, hz', hv, noD, z32]
    · simp [k, A, B, C, validE, hz', hv, noD, z32]
    · simp [k, A, B, C, validE, hz', hv, noD, z32]
end Go.Cen
