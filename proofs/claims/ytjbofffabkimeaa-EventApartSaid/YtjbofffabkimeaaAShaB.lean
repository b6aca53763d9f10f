/- SHA: the words of a block. -/
import Derived.Test.YtjbofffabkimeaaAShaA
set_option linter.unusedVariables false
set_option linter.unusedSimpArgs false
namespace Go.Cen
def u8 (x : Int) : Prop := 0 ≤ x ∧ x < 256
end Go.Cen
