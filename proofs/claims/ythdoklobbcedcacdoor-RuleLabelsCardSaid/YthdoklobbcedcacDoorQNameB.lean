/- NAME: what is shown is read back. -/
import Derived.Test.YthdoklobbcedcacDoorQNameA
set_option linter.unusedVariables false
set_option linter.unusedSimpArgs false
namespace Go.Cen
/-! ### the program's own reading -/
theorem drop_str (l : List Int) (k : Nat) (hk : k ≤ l.length) : sx (strOfNums l) (k : Int) (l.length : Int) = strOfNums (l.drop k) := by
  rw [sx_str]; simp
end Go.Cen
