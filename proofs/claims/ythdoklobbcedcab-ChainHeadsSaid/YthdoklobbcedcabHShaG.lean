/- SHA: that the program works at a few texts, by reckoning; the six laws. -/
import Derived.Test.YthdoklobbcedcabHShaF
set_option linter.unusedVariables false
set_option linter.unusedSimpArgs false
set_option maxRecDepth 1000000
namespace Go.Cen
def ofK (s : ByteArray) : Option (List Int) := (sha_Pad s).bind fun y10 => (sha_Of.l0 K64 FU y10 K8).bind fun x11 => (sha_Of.l1 x11 FU 0 (List.replicate 32 (0 : Int))).bind fun x23 => some x23
theorem of_ofK (s : ByteArray) : sha_Of s = ofK s := by unfold sha_Of ofK; rw [constants_eq]; rfl
end Go.Cen
