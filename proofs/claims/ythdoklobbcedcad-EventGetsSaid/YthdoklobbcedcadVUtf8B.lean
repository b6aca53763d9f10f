/- UTF-8: broken bytes, the reference's rune, the bytes of a rune. -/
import Derived.Test.YthdoklobbcedcadVUtf8A
set_option linter.unusedVariables false
set_option linter.unusedSimpArgs false
namespace Go.Cen
open Go.Lib (decodeN firstT accLo accHi slowN slow_eq)
instance (l : List Int) : Decidable (bad l) := inferInstanceAs (Decidable (dec l = (65533, 1)))
/-- what decoding gives: one byte below 128, a broken byte, or a whole rune of two bytes or more -/
theorem dec_cases (l : List Int) (hl : l ≠ []) (h : isB l) : (bn l 0 < 128 ∧ dec l = (bn l 0, 1)) ∨ (128 ≤ bn l 0 ∧ bad l) ∨
    (2 ≤ (dec l).2 ∧ 128 ≤ (dec l).1 ∧ 192 ≤ bn l 0 ∧ (dec l).1 ≤ 1114111 ∧ ((dec l).1 < 55296 ∨ 57344 ≤ (dec l).1)) := by
  have := List.length_pos_iff.2 hl
  have b0 := bn_lt h 0; have b1 := bn_lt h 1; have b2 := bn_lt h 2; have b3 := bn_lt h 3
  unfold bad dec decodeN
  repeat' split
  all_goals first | (left; refine ⟨by omega, ?_⟩; (try rfl); done) | (right; left; exact ⟨by omega, rfl⟩) | (right; right; refine ⟨by simp only <;> omega, by simp only <;> omega, by omega, by simp only <;> omega, by simp only <;> omega⟩)
theorem dec_small {l : List Int} (h : bn l 0 < 128) : dec l = (bn l 0, 1) := by unfold dec decodeN; rw [if_pos h]
theorem bad_w {l : List Int} (h : bad l) : dec l = (65533, 1) := h
/-! ### the reference's rune -/
def rr (n b0 b1 b2 b3 : Nat) : Int × Int :=
  if b0 < 128 then ((b0 : Int), 1)
  else if 194 ≤ b0 ∧ b0 < 224 then
    (if n < 2 then (-1, 1) else if b1 < 128 ∨ 191 < b1 then (-1, 1) else (((b0 - 192) * 64 + b1 - 128 : Nat), 2))
  else if 224 ≤ b0 ∧ b0 < 240 then
    (if n < 3 then (-1, 1) else if b1 < 128 ∨ 191 < b1 then (-1, 1) else if b2 < 128 ∨ 191 < b2 then (-1, 1)
     else if ((b0 - 224) * 64 + b1 - 128) * 64 + b2 - 128 < 2048 ∨ (55296 ≤ ((b0 - 224) * 64 + b1 - 128) * 64 + b2 - 128 ∧ ((b0 - 224) * 64 + b1 - 128) * 64 + b2 - 128 ≤ 57343) then (-1, 1) else ((((b0 - 224) * 64 + b1 - 128) * 64 + b2 - 128 : Nat), 3))
  else if 240 ≤ b0 ∧ b0 < 245 then
    (if n < 4 then (-1, 1) else if b1 < 128 ∨ 191 < b1 then (-1, 1) else if b2 < 128 ∨ 191 < b2 then (-1, 1) else if b3 < 128 ∨ 191 < b3 then (-1, 1)
     else if (((b0 - 240) * 64 + b1 - 128) * 64 + b2 - 128) * 64 + b3 - 128 < 65536 ∨ 1114111 < (((b0 - 240) * 64 + b1 - 128) * 64 + b2 - 128) * 64 + b3 - 128 then (-1, 1) else (((((b0 - 240) * 64 + b1 - 128) * 64 + b2 - 128) * 64 + b3 - 128 : Nat), 4))
  else (-1, 1)
set_option maxRecDepth 100000 in
set_option maxHeartbeats 4000000 in
theorem dN2 (n b0 b1 b2 b3 : Nat) (hn : 1 ≤ n) (h1 : b1 < 256) (hb : 194 ≤ b0 ∧ b0 < 224) :
    decodeN n b0 b1 b2 b3 = if n < 2 ∨ (b1 < 128 ∨ 191 < b1) then (65533, 1) else ((b0 - 192) * 64 + b1 - 128, 2) := by
  unfold decodeN
  repeat' split
  all_goals first | rfl | (exfalso; omega) | (apply Prod.ext <;> simp only <;> omega)
set_option maxRecDepth 100000 in
set_option maxHeartbeats 4000000 in
theorem dN3 (n b0 b1 b2 b3 : Nat) (hn : 1 ≤ n) (h1 : b1 < 256) (h2 : b2 < 256) (hb : 224 ≤ b0 ∧ b0 < 240) :
    decodeN n b0 b1 b2 b3 = if n < 3 ∨ (b1 < 128 ∨ 191 < b1) ∨ (b2 < 128 ∨ 191 < b2) ∨ (((b0 - 224) * 64 + b1 - 128) * 64 + b2 - 128 < 2048 ∨ (55296 ≤ ((b0 - 224) * 64 + b1 - 128) * 64 + b2 - 128 ∧ ((b0 - 224) * 64 + b1 - 128) * 64 + b2 - 128 ≤ 57343)) then (65533, 1) else (((b0 - 224) * 64 + b1 - 128) * 64 + b2 - 128, 3) := by
  unfold decodeN
  repeat' split
  all_goals first | rfl | (exfalso; omega) | (apply Prod.ext <;> simp only <;> omega)
set_option maxRecDepth 100000 in
set_option maxHeartbeats 4000000 in
theorem dN4 (n b0 b1 b2 b3 : Nat) (hn : 1 ≤ n) (h1 : b1 < 256) (h2 : b2 < 256) (h3 : b3 < 256) (hb : 240 ≤ b0 ∧ b0 < 245) :
    decodeN n b0 b1 b2 b3 = if n < 4 ∨ (b1 < 128 ∨ 191 < b1) ∨ (b2 < 128 ∨ 191 < b2) ∨ (b3 < 128 ∨ 191 < b3) ∨ ((((b0 - 240) * 64 + b1 - 128) * 64 + b2 - 128) * 64 + b3 - 128 < 65536 ∨ 1114111 < (((b0 - 240) * 64 + b1 - 128) * 64 + b2 - 128) * 64 + b3 - 128) then (65533, 1) else ((((b0 - 240) * 64 + b1 - 128) * 64 + b2 - 128) * 64 + b3 - 128, 4) := by
  unfold decodeN
  repeat' split
  all_goals first | rfl | (exfalso; omega) | (apply Prod.ext <;> simp only <;> omega)
set_option maxRecDepth 100000 in
set_option maxHeartbeats 4000000 in
theorem dNx (n b0 b1 b2 b3 : Nat) (h0 : b0 < 256) (h1 : b1 < 256) (hb : (128 ≤ b0 ∧ b0 < 194) ∨ 245 ≤ b0) : decodeN n b0 b1 b2 b3 = (65533, 1) := by
  unfold decodeN
  repeat' split
  all_goals first | rfl | (exfalso; omega)
theorem rr_dec (n b0 b1 b2 b3 : Nat) (hn : 1 ≤ n) (h0 : b0 < 256) (h1 : b1 < 256) (h2 : b2 < 256) (h3 : b3 < 256) :
    rr n b0 b1 b2 b3 = if decodeN n b0 b1 b2 b3 = (65533, 1) then (-1, 1) else (((decodeN n b0 b1 b2 b3).1 : Int), ((decodeN n b0 b1 b2 b3).2 : Int)) := by
  by_cases c0 : b0 < 128
  · have e : decodeN n b0 b1 b2 b3 = (b0, 1) := by unfold decodeN; rw [if_pos c0]
    have e2 : ¬ ((b0, 1) : Nat × Nat) = (65533, 1) := by simp; omega
    rw [e, if_neg e2]
    unfold rr; rw [if_pos c0]; rfl
  · by_cases c2 : 194 ≤ b0 ∧ b0 < 224
    · rw [dN2 n b0 b1 b2 b3 hn h1 c2]
      unfold rr
      rw [if_neg c0, if_pos c2]
      by_cases d : n < 2 ∨ (b1 < 128 ∨ 191 < b1)
      · rw [if_pos d, if_pos rfl]
        repeat' split
        all_goals first | rfl | (exfalso; omega)
      · have e2 : ¬ (((b0 - 192) * 64 + b1 - 128, 2) : Nat × Nat) = (65533, 1) := by simp
        rw [if_neg d, if_neg e2, if_neg (by omega), if_neg (by omega)]; rfl
    · by_cases c3 : 224 ≤ b0 ∧ b0 < 240
      · rw [dN3 n b0 b1 b2 b3 hn h1 h2 c3]
        unfold rr
        rw [if_neg c0, if_neg c2, if_pos c3]
        by_cases d : n < 3 ∨ (b1 < 128 ∨ 191 < b1) ∨ (b2 < 128 ∨ 191 < b2) ∨ (((b0 - 224) * 64 + b1 - 128) * 64 + b2 - 128 < 2048 ∨ (55296 ≤ ((b0 - 224) * 64 + b1 - 128) * 64 + b2 - 128 ∧ ((b0 - 224) * 64 + b1 - 128) * 64 + b2 - 128 ≤ 57343))
        · rw [if_pos d, if_pos rfl]
          repeat' split
          all_goals first | rfl | (exfalso; omega)
        · have e2 : ¬ ((((b0 - 224) * 64 + b1 - 128) * 64 + b2 - 128, 3) : Nat × Nat) = (65533, 1) := by simp
          rw [if_neg d, if_neg e2, if_neg (by omega), if_neg (by omega), if_neg (by omega), if_neg (by omega)]; rfl
      · by_cases c4 : 240 ≤ b0 ∧ b0 < 245
        · rw [dN4 n b0 b1 b2 b3 hn h1 h2 h3 c4]
          unfold rr
          rw [if_neg c0, if_neg c2, if_neg c3, if_pos c4]
          by_cases d : n < 4 ∨ (b1 < 128 ∨ 191 < b1) ∨ (b2 < 128 ∨ 191 < b2) ∨ (b3 < 128 ∨ 191 < b3) ∨ ((((b0 - 240) * 64 + b1 - 128) * 64 + b2 - 128) * 64 + b3 - 128 < 65536 ∨ 1114111 < (((b0 - 240) * 64 + b1 - 128) * 64 + b2 - 128) * 64 + b3 - 128)
          · rw [if_pos d, if_pos rfl]
            repeat' split
            all_goals first | rfl | (exfalso; omega)
          · have e2 : ¬ (((((b0 - 240) * 64 + b1 - 128) * 64 + b2 - 128) * 64 + b3 - 128, 4) : Nat × Nat) = (65533, 1) := by simp
            rw [if_neg d, if_neg e2, if_neg (by omega), if_neg (by omega), if_neg (by omega), if_neg (by omega), if_neg (by omega)]; rfl
        · rw [dNx n b0 b1 b2 b3 h0 h1 (by omega), if_pos rfl]
          unfold rr
          rw [if_neg c0, if_neg c2, if_neg c3, if_neg c4]
end Go.Cen
