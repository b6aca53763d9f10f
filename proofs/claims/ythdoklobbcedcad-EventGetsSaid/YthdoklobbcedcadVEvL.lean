/- EVENT: how long; what is not told. -/
import Derived.Test.YthdoklobbcedcadVEvG
set_option linter.unusedVariables false
set_option linter.unusedSimpArgs false
set_option maxRecDepth 100000
namespace Go.Cen
theorem works05 : law05_works = some true := by decide +kernel
end Go.Cen
