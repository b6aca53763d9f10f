/- UTF-8: the reference's rune; the bytes of a rune. -/
import Derived.Test.YtjbofffabkimeaaAUtf8B
set_option linter.unusedVariables false
set_option linter.unusedSimpArgs false
namespace Go.Cen
open Go.Lib (decodeN firstT accLo accHi slowN slow_eq)
theorem bt_bn {l : List Int} (h : isB l) (k : Nat) : bt (strOfNums l) (k : Int) = (bn l k : Int) := by rw [bt_str h]; exact gt_bn h k
end Go.Cen
