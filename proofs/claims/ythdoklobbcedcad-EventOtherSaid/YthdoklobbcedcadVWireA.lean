/- WIRE: numbers as bytes, both ways. -/
import Derived.Test.YthdoklobbcedcadPx
import Derived.Test.YthdoklobbcedcadCenMa
set_option linter.unusedVariables false
set_option linter.unusedSimpArgs false
namespace Go.Cen
/-- a number's bytes -/
def numL (n : Nat) : List Int := if n < 128 then [(n : Int)] else ((n % 128 + 128 : Nat) : Int) :: numL (n / 128)
termination_by n
decreasing_by omega
def clampN (a : Int) : Nat := (if 1125899906842624 < (if 0 > a then 0 else a) then 1125899906842624 else if 0 > a then 0 else a).toNat
end Go.Cen
