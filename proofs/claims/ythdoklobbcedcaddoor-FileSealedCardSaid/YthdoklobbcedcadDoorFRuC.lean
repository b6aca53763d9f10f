/- RULE: the floor; which are due. -/
import Derived.Test.YthdoklobbcedcadDoorFRuB
set_option linter.unusedVariables false
set_option linter.unusedSimpArgs false
set_option maxRecDepth 100000
namespace Go.Cen
def cl40 (t : Int) : Int := if 1099511627776 < (if 0 > t then 0 else t) then 1099511627776 else if 0 > t then 0 else t
def flF (a t : Int) : Int := if cl40 t > a then cl40 t else a
theorem Floor_eq (a t : Int) : rule_Floor a t = some (flF a t) := rfl
/-! ### which are due -/
end Go.Cen
