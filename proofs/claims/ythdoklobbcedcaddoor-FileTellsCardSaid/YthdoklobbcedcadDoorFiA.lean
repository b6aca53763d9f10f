/- FILE: what a file comes to. -/
import Derived.Test.YthdoklobbcedcadDoorFRuB
import Derived.Test.YthdoklobbcedcadDoorFShaB
set_option linter.unusedVariables false
set_option linter.unusedSimpArgs false
set_option maxRecDepth 100000
namespace Go.Cen
structure Fi where
  id : Int
  nm : ByteArray
  da : ByteArray
  sd : Bool
  un : Int
  ho : List ByteArray
abbrev e0 : ByteArray := ⟨#[]⟩
def fi0 : Fi := ⟨0, e0, e0, false, 0, []⟩
theorem works08 : law08_works = some true := by decide +kernel
end Go.Cen
