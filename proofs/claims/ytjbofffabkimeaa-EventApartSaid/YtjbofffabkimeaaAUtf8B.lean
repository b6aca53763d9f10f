/- UTF-8: broken bytes, the reference's rune, the bytes of a rune. -/
import Derived.Test.YtjbofffabkimeaaAUtf8A
set_option linter.unusedVariables false
set_option linter.unusedSimpArgs false
namespace Go.Cen
open Go.Lib (decodeN firstT accLo accHi slowN slow_eq)
instance (l : List Int) : Decidable (bad l) := inferInstanceAs (Decidable (dec l = (65533, 1)))
/-- what decoding gives: one byte below 128, a broken byte, or a whole rune of two bytes or more -/
theorem dec_cases (l : List Int) (hl : l ≠ []) (h : isB l) : (bn l 0 < 128 ∧ dec l = (bn l 0, 1)) ∨ (128 ≤ bn l 0 ∧ bad l) ∨
    (2 ≤ (dec l).2 ∧ 128 ≤ (dec l).1 ∧ 192 ≤ bn l 0 ∧ (dec l).1 ≤ 1114111 ∧ ((dec l).1 < 55296 ∨ 57344 ≤ (dec l).1)) := by
  have := List.length_pos_iff.2 hl
  have b0 := bn_lt h 0; have b1 := bn_lt h 1; have b2 := bn_lt h 2; have b3 := bn_lt h 3
  unfold bad dec decodeN
  repeat' split
  all_goals first | (left; refine ⟨by omega, ?_⟩; (try rfl); done) | (right; left; exact ⟨by omega, rfl⟩) | (right; right; refine ⟨by simp only <;> omega, by simp only <;> omega, by omega, by simp only <;> omega, by simp only <;> omega⟩)
theorem dec_small {l : List Int} (h : bn l 0 < 128) : dec l = (bn l 0, 1) := by unfold dec decodeN; rw [if_pos h]
theorem bad_w {l : List Int} (h : bad l) : dec l = (65533, 1) := h
/-! ### the reference's rune -/
set_option maxRecDepth 100000 in
set_option maxHeartbeats 4000000 in
theorem dN2 (n b0 b1 b2 b3 : Nat) (hn : 1 ≤ n) (h1 : b1 < 256) (hb : 194 ≤ b0 ∧ b0 < 224) :
    decodeN n b0 b1 b2 b3 = if n < 2 ∨ (b1 < 128 ∨ 191 < b1) then (65533, 1) else ((b0 - 192) * 64 + b1 - 128, 2) := by
  unfold decodeN
  repeat' split
  all_goals first | rfl | (exfalso; omega) | (apply Prod.ext <;> simp only <;> omega)
set_option maxRecDepth 100000 in
set_option maxHeartbeats 4000000 in
theorem dN3 (n b0 b1 b2 b3 : Nat) (hn : 1 ≤ n) (h1 : b1 < 256) (h2 : b2 < 256) (hb : 224 ≤ b0 ∧ b0 < 240) :
    decodeN n b0 b1 b2 b3 = if n < 3 ∨ (b1 < 128 ∨ 191 < b1) ∨ (b2 < 128 ∨ 191 < b2) ∨ (((b0 - 224) * 64 + b1 - 128) * 64 + b2 - 128 < 2048 ∨ (55296 ≤ ((b0 - 224) * 64 + b1 - 128) * 64 + b2 - 128 ∧ ((b0 - 224) * 64 + b1 - 128) * 64 + b2 - 128 ≤ 57343)) then (65533, 1) else (((b0 - 224) * 64 + b1 - 128) * 64 + b2 - 128, 3) := by
  unfold decodeN
  repeat' split
  all_goals first | rfl | (exfalso; omega) | (apply Prod.ext <;> simp only <;> omega)
set_option maxRecDepth 100000 in
set_option maxHeartbeats 4000000 in
theorem dN4 (n b0 b1 b2 b3 : Nat) (hn : 1 ≤ n) (h1 : b1 < 256) (h2 : b2 < 256) (h3 : b3 < 256) (hb : 240 ≤ b0 ∧ b0 < 245) :
    decodeN n b0 b1 b2 b3 = if n < 4 ∨ (b1 < 128 ∨ 191 < b1) ∨ (b2 < 128 ∨ 191 < b2) ∨ (b3 < 128 ∨ 191 < b3) ∨ ((((b0 - 240) * 64 + b1 - 128) * 64 + b2 - 128) * 64 + b3 - 128 < 65536 ∨ 1114111 < (((b0 - 240) * 64 + b1 - 128) * 64 + b2 - 128) * 64 + b3 - 128) then (65533, 1) else ((((b0 - 240) * 64 + b1 - 128) * 64 + b2 - 128) * 64 + b3 - 128, 4) := by
  unfold decodeN
  repeat' split
  all_goals first | rfl | (exfalso; omega) | (apply Prod.ext <;> simp only <;> omega)
set_option maxRecDepth 100000 in
set_option maxHeartbeats 4000000 in
theorem dNx (n b0 b1 b2 b3 : Nat) (h0 : b0 < 256) (h1 : b1 < 256) (hb : (128 ≤ b0 ∧ b0 < 194) ∨ 245 ≤ b0) : decodeN n b0 b1 b2 b3 = (65533, 1) := by
  unfold decodeN
  repeat' split
  all_goals first | rfl | (exfalso; omega)
end Go.Cen
