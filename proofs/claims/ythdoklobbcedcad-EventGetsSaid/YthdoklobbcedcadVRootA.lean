/- ROOT: what is valid, and its bytes. -/
import Derived.Test.YthdoklobbcedcadVWireA
import Derived.Test.YthdoklobbcedcadCenPl
set_option linter.unusedVariables false
set_option linter.unusedSimpArgs false
namespace Go.Cen
/-- one row, as four numbers -/
structure Q where
  l : Int
  o : Int
  b : Int
  t : Int
  deriving DecidableEq
end Go.Cen
