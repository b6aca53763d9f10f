/- ROOT: its bytes, and the parts. -/
import Derived.Test.YthdoklobbcedcadVRootA
set_option linter.unusedVariables false
set_option linter.unusedSimpArgs false
namespace Go.Cen
/-- a number's bytes, clamped -/
def nm (a : Int) : List Int := numL (clampN a)
end Go.Cen
