/- Loops over lists, plainly. No program in sight. -/
import Derived.Test.YthdoklobbcedcadDoorCenMa
import Derived.Test.YthdoklobbcedcadDoorCenOwn
set_option linter.unusedVariables false
set_option linter.unusedSimpArgs false
namespace Go.Cen
theorem gt_nat {α : Type} [Inhabited α] (xs : List α) (i : Nat) (h : i < xs.length) : gt xs (i : Int) = xs[i] := by
  simp [gt, List.getD_eq_getElem?_getD, h]
theorem byts_len (s : ByteArray) : (byts s).length = s.size := by rw [byts, List.length_map]; rfl
theorem strOfNums_append {xs ys : List Int} : strOfNums xs ++ strOfNums ys = strOfNums (xs ++ ys) := by
  apply ByteArray.ext
  apply Array.toList_inj.1
  rw [ByteArray.data_append, Array.toList_append, strOfNums_data, strOfNums_data, strOfNums_data, List.map_append]
theorem strOfNums_size (xs : List Int) : (strOfNums xs).size = xs.length := by
  have : (strOfNums xs).data.toList.length = xs.length := by rw [strOfNums_data, List.length_map]
  exact this
theorem sx_str {xs : List Int} (a b : Int) : sx (strOfNums xs) a b = strOfNums ((xs.take b.toNat).drop a.toNat) := by
  apply ByteArray.ext
  apply Array.toList_inj.1
  have : ((strOfNums xs).extract a.toNat b.toNat).data.toList = ((strOfNums xs).data.toList.take b.toNat).drop a.toNat := by simp [List.drop_take]
  rw [sx, this, strOfNums_data, strOfNums_data, List.map_drop, List.map_take]
end Go.Cen
