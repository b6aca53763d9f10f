/- What more functions of the program compute, as plain functions (no walk speaks of these): printed by a program of ours. -/
import Derived.Test.YtlojedndicppeaaGreatDoorPx
set_option linter.unusedVariables false
namespace Go.Cen
def sha_Link (a0 : (List Int)) (a1 : ByteArray) : Option (List Int) := (if (strOfNums a0).size + a1.size ≤ LIM then ((sha_Of ((strOfNums a0) ++ a1)).bind fun y5 => some y5) else none)
def chain_Next (a0 : (List Int)) (a1 : ApiEvent) : Option ((List Int) × Bool) := ((event_Put a1).bind fun (y6, y7) => (if (!y7) = true then some (([0, 0, 0, 0, 0, 0, 0, 0, 0, 0, 0, 0, 0, 0, 0, 0, 0, 0, 0, 0, 0, 0, 0, 0, 0, 0, 0, 0, 0, 0, 0, 0] : List Int), false) else ((sha_Link a0 y6).bind fun y11 => some (y11, true))))
end Go.Cen
