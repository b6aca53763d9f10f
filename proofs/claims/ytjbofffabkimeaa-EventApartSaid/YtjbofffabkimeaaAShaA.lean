/- SHA: shifts that turn, words of a block: the code's and the reference's come to the same. -/
import Derived.Test.YtjbofffabkimeaaPx
import Derived.Test.YtjbofffabkimeaaCenMa
set_option linter.unusedVariables false
set_option linter.unusedSimpArgs false
namespace Go.Cen
def u32 (x : Int) : Prop := 0 ≤ x ∧ x < 4294967296
end Go.Cen
