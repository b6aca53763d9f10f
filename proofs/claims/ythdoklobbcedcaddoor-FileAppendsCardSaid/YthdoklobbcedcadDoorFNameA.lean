/- NAME: a text's runes, one by one. -/
import Derived.Test.YthdoklobbcedcadDoorFUtf8B
set_option linter.unusedVariables false
set_option linter.unusedSimpArgs false
namespace Go.Cen
open Go.Lib (decodeN firstT accLo accHi slowN slow_eq)
theorem drop_lt {l : List Int} (h : ¬ l = []) : (l.drop (dec l).2).length < l.length := by
  have := dec_w l h
  have := List.length_pos_iff.2 h
  rw [List.length_drop]; omega
/-! ### a text as it is shown -/
def hexd (n : Nat) : Int := bt (⟨#[48, 49, 50, 51, 52, 53, 54, 55, 56, 57, 97, 98, 99, 100, 101, 102]⟩ : ByteArray) (n : Int)
def shown (l : List Int) : List Int :=
  if (dec l).1 = 34 ∨ (dec l).1 = 92 then [92, ((dec l).1 : Int)] else if (dec l).1 = 10 then [92, 110]
  else if (dec l).1 < 32 ∨ (dec l).1 = 127 ∨ bad l then [92, 120, hexd (bn l 0 / 16), hexd (bn l 0 % 16)] else l.take (dec l).2
def body (l : List Int) : List Int := if h : l = [] then [] else shown l ++ body (l.drop (dec l).2)
termination_by l.length
decreasing_by exact drop_lt h
end Go.Cen
