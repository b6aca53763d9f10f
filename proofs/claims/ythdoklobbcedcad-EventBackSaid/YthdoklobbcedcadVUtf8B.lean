/- UTF-8: broken bytes, the reference's rune, the bytes of a rune. -/
import Derived.Test.YthdoklobbcedcadVUtf8A
set_option linter.unusedVariables false
set_option linter.unusedSimpArgs false
namespace Go.Cen
open Go.Lib (decodeN firstT accLo accHi slowN slow_eq)
instance (l : List Int) : Decidable (bad l) := inferInstanceAs (Decidable (dec l = (65533, 1)))
/-! ### the reference's rune -/
end Go.Cen
