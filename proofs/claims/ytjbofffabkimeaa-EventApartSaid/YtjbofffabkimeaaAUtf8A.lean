/- UTF-8: what a text's bytes begin with. -/
import Derived.Test.YtjbofffabkimeaaPx
import Derived.Test.YtjbofffabkimeaaCenPl
import Derived.Lib.DecodeNEq
set_option linter.unusedVariables false
set_option linter.unusedSimpArgs false
namespace Go.Cen
open Go.Lib (decodeN firstT accLo accHi slowN slow_eq)
/-- a byte, as a number -/
def bn (l : List Int) (k : Nat) : Nat := (gt l (k : Int)).toNat
/-- the rune that a list of bytes begins with, and its width -/
def dec (l : List Int) : Nat × Nat := decodeN l.length (bn l 0) (bn l 1) (bn l 2) (bn l 3)
theorem bn_lt {l : List Int} (h : isB l) (k : Nat) : bn l k < 256 := by
  have := gt_all (p := fun x => 0 ≤ x ∧ x < 256) h ⟨by decide, by decide⟩ (k : Int)
  unfold bn; omega
theorem gt_bn {l : List Int} (h : isB l) (k : Nat) : gt l (k : Int) = (bn l k : Int) := by
  have := gt_all (p := fun x => 0 ≤ x ∧ x < 256) h ⟨by decide, by decide⟩ (k : Int)
  unfold bn; omega
theorem bn_drop (l : List Int) (i k : Nat) : bn (l.drop i) k = bn l (i + k) := by
  show (List.getD (l.drop i) ((k : Int)).toNat default).toNat = (List.getD l ((i + k : Nat) : Int).toNat default).toNat
  rw [Int.toNat_natCast, Int.toNat_natCast]
  simp [List.getD_eq_getElem?_getD, List.getElem?_drop]
theorem get!_str {l : List Int} (h : isB l) (i : Nat) : ((strOfNums l).get! i).toNat = bn l i := by
  have e1 : ((strOfNums l).get! i) = (strOfNums l).data.toList.getD i default := by
    show (strOfNums l).data[i]! = _
    rw [← Array.getElem!_toList]
    simp [List.getD_eq_getElem?_getD, List.getElem!_eq_getElem?_getD]
  rw [e1, strOfNums_data]
  simp only [bn, gt, Int.toNat_natCast, List.getD_eq_getElem?_getD, List.getElem?_map]
  cases hh : l[i]? with
  | none => rfl
  | some v =>
    have := h v (List.mem_of_getElem? hh)
    simp [UInt8.toNat_ofNat']
    omega
theorem decode_str {l : List Int} (h : isB l) {i : Nat} (hi : i ≤ l.length) : Utf8.decode (strOfNums l) i = dec (l.drop i) := by
  rw [Go.Lib.decode_at, strOfNums_size, get!_str h, get!_str h, get!_str h, get!_str h]
  unfold dec
  rw [List.length_drop, bn_drop, bn_drop, bn_drop, bn_drop]
  rfl
theorem runeAt_str {l : List Int} (h : isB l) {i : Nat} (hi : i ≤ l.length) : runeAt (strOfNums l) i = ((dec (l.drop i)).1 : Int) := by rw [runeAt, decode_str h hi]
theorem runeW_str {l : List Int} (h : isB l) {i : Nat} (hi : i ≤ l.length) : runeW (strOfNums l) i = (dec (l.drop i)).2 := by rw [runeW, decode_str h hi]
/-! ### what decoding gives -/
def bad (l : List Int) : Prop := dec l = (65533, 1)
theorem dec_w (l : List Int) (hl : l ≠ []) : 1 ≤ (dec l).2 ∧ (dec l).2 ≤ 4 ∧ (dec l).2 ≤ l.length := by
  have := List.length_pos_iff.2 hl
  unfold dec decodeN
  repeat' split
  all_goals (refine ⟨?_, ?_, ?_⟩ <;> simp only <;> omega)
/-! ### the words' arithmetic -/
theorem and63 : ∀ n < 256, bAnd .u8 ((n : Nat) : Int) 63 = ((n % 64 : Nat) : Int) := by decide +kernel
end Go.Cen
