/- Numbers that wrap, bits, strings as lists of numbers. No program in sight. -/
import Derived.Test.YthdoklobbcedcacDoorCenLift3
import Derived.Lib.Strings
set_option linter.unusedVariables false
set_option linter.unusedSimpArgs false
namespace Go.Cen
theorem wi64_id {x : Int} (h : -9223372036854775808 ≤ x ∧ x < 9223372036854775808) : wi64 x = x := by
  rw [wi64, IntKind.wrap_i64]; omega
/-! ### strings -/
/-! ### lists -/
end Go.Cen
