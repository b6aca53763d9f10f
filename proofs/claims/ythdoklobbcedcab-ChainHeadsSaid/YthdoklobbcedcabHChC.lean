/- CHAIN: the laws on heads. -/
import Derived.Test.YthdoklobbcedcabHChB
set_option linter.unusedVariables false
set_option linter.unusedSimpArgs false
set_option maxRecDepth 100000
namespace Go.Cen
theorem okL_take {a : List ApiEvent} (ha : okL a) (n : Nat) : okL (a.take n) := fun e he => ha e (List.mem_of_mem_take he)
/-! ### two rows of one head -/
end Go.Cen
