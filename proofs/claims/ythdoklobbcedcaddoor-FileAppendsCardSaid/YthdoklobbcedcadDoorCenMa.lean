/- Numbers that wrap, bits, strings as lists of numbers. No program in sight. -/
import Derived.Test.YthdoklobbcedcadDoorCenLift3
import Derived.Lib.Strings
set_option linter.unusedVariables false
set_option linter.unusedSimpArgs false
namespace Go.Cen
theorem wi64_id {x : Int} (h : -9223372036854775808 ≤ x ∧ x < 9223372036854775808) : wi64 x = x := by
  rw [wi64, IntKind.wrap_i64]; omega
/-! ### strings -/
theorem strOfNums_byts (s : ByteArray) : strOfNums (byts s) = s := by
  have : (byts s).map (fun n => UInt8.ofNat n.toNat) = s.data.toList := by
    simp only [byts, List.map_map]
    conv => rhs; rw [← List.map_id s.data.toList]
    apply List.map_congr_left
    intro a _
    simp
  unfold strOfNums
  rw [this]
theorem byts_inj {s t : ByteArray} (h : byts s = byts t) : s = t := by rw [← strOfNums_byts s, h, strOfNums_byts]
theorem byts_nil : byts (⟨#[]⟩ : ByteArray) = [] := rfl
theorem seq_iff (s t : ByteArray) : seq s t = true ↔ s = t := by
  simp only [seq, beq_iff_eq]
  constructor
  · intro h
    apply ByteArray.ext
    apply Array.toList_inj.1
    have e (x : ByteArray) : x.toList = x.data.toList := ByteArray.toList_eq x
    rw [e, e] at h
    exact h
  · rintro rfl; rfl
/-! ### lists -/
end Go.Cen
