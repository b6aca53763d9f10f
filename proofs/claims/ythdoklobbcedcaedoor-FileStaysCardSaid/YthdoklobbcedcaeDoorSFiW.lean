/- FILE: a new file may be, and so may each that is made of it. -/
import Derived.Test.YthdoklobbcedcaeDoorSFiV
set_option linter.unusedVariables false
set_option linter.unusedSimpArgs false
set_option maxRecDepth 100000
namespace Go.Cen
theorem vN_big {s : ByteArray} (h : s.size ≤ 9223372036854775807) : name_Valid s = some (vN s) := by
  have := name_Valid_str (l := byts s) (byts_isB s) (by rw [byts_len]; omega)
  rwa [strOfNums_byts] at this
end Go.Cen
