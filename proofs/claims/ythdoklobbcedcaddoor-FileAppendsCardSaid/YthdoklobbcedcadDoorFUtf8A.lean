/- UTF-8: what a text's bytes begin with. -/
import Derived.Test.YthdoklobbcedcadDoorPx
import Derived.Test.YthdoklobbcedcadDoorCenPl
import Derived.Lib.DecodeNEq
set_option linter.unusedVariables false
set_option linter.unusedSimpArgs false
namespace Go.Cen
open Go.Lib (decodeN firstT accLo accHi slowN slow_eq)
/-- a byte, as a number -/
def bn (l : List Int) (k : Nat) : Nat := (gt l (k : Int)).toNat
/-- the rune that a list of bytes begins with, and its width -/
def dec (l : List Int) : Nat × Nat := decodeN l.length (bn l 0) (bn l 1) (bn l 2) (bn l 3)
/-! ### what decoding gives -/
def bad (l : List Int) : Prop := dec l = (65533, 1)
theorem dec_w (l : List Int) (hl : l ≠ []) : 1 ≤ (dec l).2 ∧ (dec l).2 ≤ 4 ∧ (dec l).2 ≤ l.length := by
  have := List.length_pos_iff.2 hl
  unfold dec decodeN
  repeat' split
  all_goals (refine ⟨?_, ?_, ?_⟩ <;> simp only <;> omega)
/-! ### the words' arithmetic -/
end Go.Cen
