/- FILE: reads, appends, tells. -/
import Derived.Test.YthdoklobbcedcadDoorFiA
set_option linter.unusedVariables false
set_option linter.unusedSimpArgs false
set_option maxRecDepth 100000
namespace Go.Cen
/-! ### what is read -/
/-! ### alike -/
theorem app_size (s t : ByteArray) : (s ++ t).size = s.size + t.size := ByteArray.size_append
end Go.Cen
