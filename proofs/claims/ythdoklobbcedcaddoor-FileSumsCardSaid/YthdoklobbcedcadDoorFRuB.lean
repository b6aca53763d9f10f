/- RULE: the laws on one file. -/
import Derived.Test.YthdoklobbcedcadDoorFRuA
set_option linter.unusedVariables false
set_option linter.unusedSimpArgs false
set_option maxRecDepth 100000
namespace Go.Cen
/-! ### how much is looked at -/
/-! ### the laws -/
theorem seq_refl (s : ByteArray) : seq s s = true := (seq_iff s s).2 rfl
end Go.Cen
