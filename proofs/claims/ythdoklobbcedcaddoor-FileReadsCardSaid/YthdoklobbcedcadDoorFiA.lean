/- FILE: what a file comes to. -/
import Derived.Test.YthdoklobbcedcadDoorFRuB
import Derived.Test.YthdoklobbcedcadDoorFShaB
set_option linter.unusedVariables false
set_option linter.unusedSimpArgs false
set_option maxRecDepth 100000
namespace Go.Cen
abbrev e0 : ByteArray := ⟨#[]⟩
theorem works08 : law08_works = some true := by decide +kernel
end Go.Cen
