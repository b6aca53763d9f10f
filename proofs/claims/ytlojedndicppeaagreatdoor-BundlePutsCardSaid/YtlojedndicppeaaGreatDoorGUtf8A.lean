/- UTF-8: what a text's bytes begin with. -/
import Derived.Test.YtlojedndicppeaaGreatDoorPx
import Derived.Test.YtlojedndicppeaaGreatDoorCenPl
import Derived.Lib.DecodeNEq
set_option linter.unusedVariables false
set_option linter.unusedSimpArgs false
namespace Go.Cen
open Go.Lib (decodeN firstT accLo accHi slowN slow_eq)
/-- a byte, as a number -/
def bn (l : List Int) (k : Nat) : Nat := (gt l (k : Int)).toNat
/-- the rune that a list of bytes begins with, and its width -/
def dec (l : List Int) : Nat × Nat := decodeN l.length (bn l 0) (bn l 1) (bn l 2) (bn l 3)
theorem bn_lt {l : List Int} (h : isB l) (k : Nat) : bn l k < 256 := by
  have := gt_all (p := fun x => 0 ≤ x ∧ x < 256) h ⟨by decide, by decide⟩ (k : Int)
  unfold bn; omega
theorem gt_bn {l : List Int} (h : isB l) (k : Nat) : gt l (k : Int) = (bn l k : Int) := by
  have := gt_all (p := fun x => 0 ≤ x ∧ x < 256) h ⟨by decide, by decide⟩ (k : Int)
  unfold bn; omega
theorem bn_drop (l : List Int) (i k : Nat) : bn (l.drop i) k = bn l (i + k) := by
  show (List.getD (l.drop i) ((k : Int)).toNat default).toNat = (List.getD l ((i + k : Nat) : Int).toNat default).toNat
  rw [Int.toNat_natCast, Int.toNat_natCast]
  simp [List.getD_eq_getElem?_getD, List.getElem?_drop]
theorem get!_str {l : List Int} (h : isB l) (i : Nat) : ((strOfNums l).get! i).toNat = bn l i := by
  have e1 : ((strOfNums l).get! i) = (strOfNums l).data.toList.getD i default := by
    show (strOfNums l).data[i]! = _
    rw [← Array.getElem!_toList]
    simp [List.getD_eq_getElem?_getD, List.getElem!_eq_getElem?_getD]
  rw [e1, strOfNums_data]
  simp only [bn, gt, Int.toNat_natCast, List.getD_eq_getElem?_getD, List.getElem?_map]
  cases hh : l[i]? with
  | none => rfl
  | some v =>
    have := h v (List.mem_of_getElem? hh)
    simp [UInt8.toNat_ofNat']
    omega
theorem decode_str {l : List Int} (h : isB l) {i : Nat} (hi : i ≤ l.length) : Utf8.decode (strOfNums l) i = dec (l.drop i) := by
  rw [Go.Lib.decode_at, strOfNums_size, get!_str h, get!_str h, get!_str h, get!_str h]
  unfold dec
  rw [List.length_drop, bn_drop, bn_drop, bn_drop, bn_drop]
  rfl
theorem runeAt_str {l : List Int} (h : isB l) {i : Nat} (hi : i ≤ l.length) : runeAt (strOfNums l) i = ((dec (l.drop i)).1 : Int) := by rw [runeAt, decode_str h hi]
theorem runeW_str {l : List Int} (h : isB l) {i : Nat} (hi : i ≤ l.length) : runeW (strOfNums l) i = (dec (l.drop i)).2 := by rw [runeW, decode_str h hi]
/-! ### what decoding gives -/
def bad (l : List Int) : Prop := dec l = (65533, 1)
theorem dec_w (l : List Int) (hl : l ≠ []) : 1 ≤ (dec l).2 ∧ (dec l).2 ≤ 4 ∧ (dec l).2 ≤ l.length := by
  have := List.length_pos_iff.2 hl
  unfold dec decodeN
  repeat' split
  all_goals (refine ⟨?_, ?_, ?_⟩ <;> simp only <;> omega)
/-! ### the words' arithmetic -/
theorem and63 : ∀ n < 256, bAnd .u8 ((n : Nat) : Int) 63 = ((n % 64 : Nat) : Int) := by decide +kernel
end Go.Cen

/- UTF-8: broken bytes, the reference's rune, the bytes of a rune. -/
set_option linter.unusedVariables false
set_option linter.unusedSimpArgs false
namespace Go.Cen
open Go.Lib (decodeN firstT accLo accHi slowN slow_eq)
instance (l : List Int) : Decidable (bad l) := inferInstanceAs (Decidable (dec l = (65533, 1)))
/-- what decoding gives: one byte below 128, a broken byte, or a whole rune of two bytes or more -/
theorem dec_cases (l : List Int) (hl : l ≠ []) (h : isB l) : (bn l 0 < 128 ∧ dec l = (bn l 0, 1)) ∨ (128 ≤ bn l 0 ∧ bad l) ∨
    (2 ≤ (dec l).2 ∧ 128 ≤ (dec l).1 ∧ 192 ≤ bn l 0 ∧ (dec l).1 ≤ 1114111 ∧ ((dec l).1 < 55296 ∨ 57344 ≤ (dec l).1)) := by
  have := List.length_pos_iff.2 hl
  have b0 := bn_lt h 0; have b1 := bn_lt h 1; have b2 := bn_lt h 2; have b3 := bn_lt h 3
  unfold bad dec decodeN
  repeat' split
  all_goals first | (left; refine ⟨by omega, ?_⟩; (try rfl); done) | (right; left; exact ⟨by omega, rfl⟩) | (right; right; refine ⟨by simp only <;> omega, by simp only <;> omega, by omega, by simp only <;> omega, by simp only <;> omega⟩)
theorem dec_small {l : List Int} (h : bn l 0 < 128) : dec l = (bn l 0, 1) := by unfold dec decodeN; rw [if_pos h]
theorem bad_w {l : List Int} (h : bad l) : dec l = (65533, 1) := h
/-! ### the reference's rune -/
def rr (n b0 b1 b2 b3 : Nat) : Int × Int :=
  if b0 < 128 then ((b0 : Int), 1)
  else if 194 ≤ b0 ∧ b0 < 224 then
    (if n < 2 then (-1, 1) else if b1 < 128 ∨ 191 < b1 then (-1, 1) else (((b0 - 192) * 64 + b1 - 128 : Nat), 2))
  else if 224 ≤ b0 ∧ b0 < 240 then
    (if n < 3 then (-1, 1) else if b1 < 128 ∨ 191 < b1 then (-1, 1) else if b2 < 128 ∨ 191 < b2 then (-1, 1)
     else if ((b0 - 224) * 64 + b1 - 128) * 64 + b2 - 128 < 2048 ∨ (55296 ≤ ((b0 - 224) * 64 + b1 - 128) * 64 + b2 - 128 ∧ ((b0 - 224) * 64 + b1 - 128) * 64 + b2 - 128 ≤ 57343) then (-1, 1) else ((((b0 - 224) * 64 + b1 - 128) * 64 + b2 - 128 : Nat), 3))
  else if 240 ≤ b0 ∧ b0 < 245 then
    (if n < 4 then (-1, 1) else if b1 < 128 ∨ 191 < b1 then (-1, 1) else if b2 < 128 ∨ 191 < b2 then (-1, 1) else if b3 < 128 ∨ 191 < b3 then (-1, 1)
     else if (((b0 - 240) * 64 + b1 - 128) * 64 + b2 - 128) * 64 + b3 - 128 < 65536 ∨ 1114111 < (((b0 - 240) * 64 + b1 - 128) * 64 + b2 - 128) * 64 + b3 - 128 then (-1, 1) else (((((b0 - 240) * 64 + b1 - 128) * 64 + b2 - 128) * 64 + b3 - 128 : Nat), 4))
  else (-1, 1)
set_option maxRecDepth 100000 in
set_option maxHeartbeats 4000000 in
theorem dN2 (n b0 b1 b2 b3 : Nat) (hn : 1 ≤ n) (h1 : b1 < 256) (hb : 194 ≤ b0 ∧ b0 < 224) :
    decodeN n b0 b1 b2 b3 = if n < 2 ∨ (b1 < 128 ∨ 191 < b1) then (65533, 1) else ((b0 - 192) * 64 + b1 - 128, 2) := by
  unfold decodeN
  repeat' split
  all_goals first | rfl | (exfalso; omega) | (apply Prod.ext <;> simp only <;> omega)
set_option maxRecDepth 100000 in
set_option maxHeartbeats 4000000 in
theorem dN3 (n b0 b1 b2 b3 : Nat) (hn : 1 ≤ n) (h1 : b1 < 256) (h2 : b2 < 256) (hb : 224 ≤ b0 ∧ b0 < 240) :
    decodeN n b0 b1 b2 b3 = if n < 3 ∨ (b1 < 128 ∨ 191 < b1) ∨ (b2 < 128 ∨ 191 < b2) ∨ (((b0 - 224) * 64 + b1 - 128) * 64 + b2 - 128 < 2048 ∨ (55296 ≤ ((b0 - 224) * 64 + b1 - 128) * 64 + b2 - 128 ∧ ((b0 - 224) * 64 + b1 - 128) * 64 + b2 - 128 ≤ 57343)) then (65533, 1) else (((b0 - 224) * 64 + b1 - 128) * 64 + b2 - 128, 3) := by
  unfold decodeN
  repeat' split
  all_goals first | rfl | (exfalso; omega) | (apply Prod.ext <;> simp only <;> omega)
set_option maxRecDepth 100000 in
set_option maxHeartbeats 4000000 in
theorem dN4 (n b0 b1 b2 b3 : Nat) (hn : 1 ≤ n) (h1 : b1 < 256) (h2 : b2 < 256) (h3 : b3 < 256) (hb : 240 ≤ b0 ∧ b0 < 245) :
    decodeN n b0 b1 b2 b3 = if n < 4 ∨ (b1 < 128 ∨ 191 < b1) ∨ (b2 < 128 ∨ 191 < b2) ∨ (b3 < 128 ∨ 191 < b3) ∨ ((((b0 - 240) * 64 + b1 - 128) * 64 + b2 - 128) * 64 + b3 - 128 < 65536 ∨ 1114111 < (((b0 - 240) * 64 + b1 - 128) * 64 + b2 - 128) * 64 + b3 - 128) then (65533, 1) else ((((b0 - 240) * 64 + b1 - 128) * 64 + b2 - 128) * 64 + b3 - 128, 4) := by
  unfold decodeN
  repeat' split
  all_goals first | rfl | (exfalso; omega) | (apply Prod.ext <;> simp only <;> omega)
set_option maxRecDepth 100000 in
set_option maxHeartbeats 4000000 in
theorem dNx (n b0 b1 b2 b3 : Nat) (h0 : b0 < 256) (h1 : b1 < 256) (hb : (128 ≤ b0 ∧ b0 < 194) ∨ 245 ≤ b0) : decodeN n b0 b1 b2 b3 = (65533, 1) := by
  unfold decodeN
  repeat' split
  all_goals first | rfl | (exfalso; omega)
theorem rr_dec (n b0 b1 b2 b3 : Nat) (hn : 1 ≤ n) (h0 : b0 < 256) (h1 : b1 < 256) (h2 : b2 < 256) (h3 : b3 < 256) :
    rr n b0 b1 b2 b3 = if decodeN n b0 b1 b2 b3 = (65533, 1) then (-1, 1) else (((decodeN n b0 b1 b2 b3).1 : Int), ((decodeN n b0 b1 b2 b3).2 : Int)) := by
  by_cases c0 : b0 < 128
  · have e : decodeN n b0 b1 b2 b3 = (b0, 1) := by unfold decodeN; rw [if_pos c0]
    have e2 : ¬ ((b0, 1) : Nat × Nat) = (65533, 1) := by simp; omega
    rw [e, if_neg e2]
    unfold rr; rw [if_pos c0]; rfl
  · by_cases c2 : 194 ≤ b0 ∧ b0 < 224
    · rw [dN2 n b0 b1 b2 b3 hn h1 c2]
      unfold rr
      rw [if_neg c0, if_pos c2]
      by_cases d : n < 2 ∨ (b1 < 128 ∨ 191 < b1)
      · rw [if_pos d, if_pos rfl]
        repeat' split
        all_goals first | rfl | (exfalso; omega)
      · have e2 : ¬ (((b0 - 192) * 64 + b1 - 128, 2) : Nat × Nat) = (65533, 1) := by simp
        rw [if_neg d, if_neg e2, if_neg (by omega), if_neg (by omega)]; rfl
    · by_cases c3 : 224 ≤ b0 ∧ b0 < 240
      · rw [dN3 n b0 b1 b2 b3 hn h1 h2 c3]
        unfold rr
        rw [if_neg c0, if_neg c2, if_pos c3]
        by_cases d : n < 3 ∨ (b1 < 128 ∨ 191 < b1) ∨ (b2 < 128 ∨ 191 < b2) ∨ (((b0 - 224) * 64 + b1 - 128) * 64 + b2 - 128 < 2048 ∨ (55296 ≤ ((b0 - 224) * 64 + b1 - 128) * 64 + b2 - 128 ∧ ((b0 - 224) * 64 + b1 - 128) * 64 + b2 - 128 ≤ 57343))
        · rw [if_pos d, if_pos rfl]
          repeat' split
          all_goals first | rfl | (exfalso; omega)
        · have e2 : ¬ ((((b0 - 224) * 64 + b1 - 128) * 64 + b2 - 128, 3) : Nat × Nat) = (65533, 1) := by simp
          rw [if_neg d, if_neg e2, if_neg (by omega), if_neg (by omega), if_neg (by omega), if_neg (by omega)]; rfl
      · by_cases c4 : 240 ≤ b0 ∧ b0 < 245
        · rw [dN4 n b0 b1 b2 b3 hn h1 h2 h3 c4]
          unfold rr
          rw [if_neg c0, if_neg c2, if_neg c3, if_pos c4]
          by_cases d : n < 4 ∨ (b1 < 128 ∨ 191 < b1) ∨ (b2 < 128 ∨ 191 < b2) ∨ (b3 < 128 ∨ 191 < b3) ∨ ((((b0 - 240) * 64 + b1 - 128) * 64 + b2 - 128) * 64 + b3 - 128 < 65536 ∨ 1114111 < (((b0 - 240) * 64 + b1 - 128) * 64 + b2 - 128) * 64 + b3 - 128)
          · rw [if_pos d, if_pos rfl]
            repeat' split
            all_goals first | rfl | (exfalso; omega)
          · have e2 : ¬ (((((b0 - 240) * 64 + b1 - 128) * 64 + b2 - 128) * 64 + b3 - 128, 4) : Nat × Nat) = (65533, 1) := by simp
            rw [if_neg d, if_neg e2, if_neg (by omega), if_neg (by omega), if_neg (by omega), if_neg (by omega), if_neg (by omega)]; rfl
        · rw [dNx n b0 b1 b2 b3 h0 h1 (by omega), if_pos rfl]
          unfold rr
          rw [if_neg c0, if_neg c2, if_neg c3, if_neg c4]
end Go.Cen

/- UTF-8: the reference's rune; the bytes of a rune. -/
set_option linter.unusedVariables false
set_option linter.unusedSimpArgs false
namespace Go.Cen
open Go.Lib (decodeN firstT accLo accHi slowN slow_eq)
theorem bt_bn {l : List Int} (h : isB l) (k : Nat) : bt (strOfNums l) (k : Int) = (bn l k : Int) := by rw [bt_str h]; exact gt_bn h k
theorem rstep {l : List Int} (h : isB l) (n : Nat) (k v i : Nat) (hv : v ≤ 1000000) (hi : i < n) (hil : i < l.length) (hn : n ≤ 4) :
    ref03_Rune.l0 (n : Int) (strOfNums l) (k + 1) (v : Int) (i : Int) = if bn l i < 128 ∨ 191 < bn l i then some (.inl (-1, 1)) else ref03_Rune.l0 (n : Int) (strOfNums l) k ((v * 64 + bn l i - 128 : Nat) : Int) ((i + 1 : Nat) : Int) := by
  have hb := bn_lt h i
  have d : decide ((i : Int) < (n : Int)) = true := by simp; omega
  have w1 : wi64 (bn l i : Int) = (bn l i : Int) := wi64_id (by omega)
  have w2 : wi64 ((v : Int) * 64) = (v : Int) * 64 := wi64_id (by omega)
  have w3 : wi64 ((v : Int) * 64 + (bn l i : Int)) = (v : Int) * 64 + (bn l i : Int) := wi64_id (by omega)
  have w4 : wi64 ((v : Int) * 64 + (bn l i : Int) - 128) = (v : Int) * 64 + (bn l i : Int) - 128 := wi64_id (by omega)
  have w5 : wi64 ((i : Int) + 1) = ((i + 1 : Nat) : Int) := by rw [wi64_id (by omega)]; omega
  simp only [ref03_Rune.l0, d, if_true, strOfNums_size]
  rw [if_pos (by omega), bt_bn h]
  simp only [w1, w2, w3, w4, w5, orS, Option.bind_some]
  by_cases c : bn l i < 128 ∨ 191 < bn l i
  · have e : (decide ((bn l i : Int) < 128) || decide ((bn l i : Int) > 191)) = true := by simp; omega
    rw [if_pos c]; simp only [e, if_true]
  · have e : (decide ((bn l i : Int) < 128) || decide ((bn l i : Int) > 191)) = false := by simp; omega
    rw [if_neg c]; simp only [e, Bool.false_eq_true, if_false]
    have : (v : Int) * 64 + (bn l i : Int) - 128 = ((v * 64 + bn l i - 128 : Nat) : Int) := by omega
    rw [this]
theorem rend (l : List Int) (n k v : Nat) : ref03_Rune.l0 (n : Int) (strOfNums l) (k + 1) (v : Int) (n : Int) = some (.inr (v : Int)) := by
  have d : decide ((n : Int) < (n : Int)) = false := by simp
  simp only [ref03_Rune.l0, d]
  rfl
set_option maxRecDepth 10000 in
theorem ref03_Rune_str {l : List Int} (h : isB l) (hl : l ≠ []) : ref03_Rune (strOfNums l) = some (rr l.length (bn l 0) (bn l 1) (bn l 2) (bn l 3)) := by
  have hlen := List.length_pos_iff.2 hl
  have b0 := bn_lt h 0; have b1 := bn_lt h 1; have b2 := bn_lt h 2; have b3 := bn_lt h 3
  have hbt0 : bt (strOfNums l) 0 = (bn l 0 : Int) := bt_bn h 0
  have w0 : wi64 (bn l 0 : Int) = (bn l 0 : Int) := wi64_id (by omega)
  obtain ⟨m, hm, _⟩ := FU_succ 4 (by omega)
  unfold ref03_Rune rr
  rw [strOfNums_size, if_pos (by omega), hbt0, w0]
  by_cases c0 : bn l 0 < 128
  · have d : decide ((bn l 0 : Int) < 128) = true := by simp; omega
    rw [if_pos c0]; simp only [d, if_true]
  · have d : decide ((bn l 0 : Int) < 128) = false := by simp; omega
    rw [if_neg c0]
    simp only [d, Bool.false_eq_true, if_false, andS, Option.bind_some]
    by_cases c2 : 194 ≤ bn l 0 ∧ bn l 0 < 224
    · have e : (decide ((bn l 0 : Int) ≥ 194) && decide ((bn l 0 : Int) < 224)) = true := by simp; omega
      have z2 : ((2 : Int) == 0) = false := rfl
      have w : wi64 ((bn l 0 : Int) - 192) = ((bn l 0 - 192 : Nat) : Int) := by rw [wi64_id (by omega)]; omega
      rw [if_pos c2]
      simp only [e, if_true, z2, Option.bind_some, Bool.false_eq_true, if_false, w, hm]
      by_cases n1 : l.length < 2
      · have f : decide ((l.length : Int) < 2) = true := by simp; omega
        simp only [f, if_true, if_pos n1]
      · have f : decide ((l.length : Int) < 2) = false := by simp; omega
        simp only [f, Bool.false_eq_true, if_false, if_neg n1]
        rw [show ref03_Rune.l0 2 (strOfNums l) (m + 4) ((bn l 0 - 192 : Nat) : Int) 1 = _ from rstep h 2 (m + 3) (bn l 0 - 192) 1 (by omega) (by decide) (by omega) (by decide)]
        by_cases n2 : bn l 1 < 128 ∨ 191 < bn l 1
        · rw [if_pos n2, if_pos n2]; rfl
        · rw [if_neg n2, if_neg n2]
          rw [show ref03_Rune.l0 ((2 : Nat) : Int) (strOfNums l) (m + 3) (((bn l 0 - 192) * 64 + bn l 1 - 128 : Nat) : Int) ((1 + 1 : Nat) : Int) = _ from rend l 2 (m + 2) _]
          obtain ⟨v, hv⟩ : ∃ v, v = (bn l 0 - 192) * 64 + bn l 1 - 128 := ⟨_, rfl⟩
          rw [← hv]
          have q1 : decide ((v : Int) < 128) = false := by simp; omega
          have q2 : decide ((v : Int) > 1114111) = false := by simp; omega
          have q3 : decide ((v : Int) ≥ 55296) = false := by simp; omega
          simp only [Option.bind_some, q1, q2, q3, Bool.false_eq_true, if_false]
          rfl
    · have e : (decide ((bn l 0 : Int) ≥ 194) && decide ((bn l 0 : Int) < 224)) = false := by simp; omega
      rw [if_neg c2]
      simp only [e, Bool.false_eq_true, if_false]
      by_cases c3 : 224 ≤ bn l 0 ∧ bn l 0 < 240
      · have e : (decide ((bn l 0 : Int) ≥ 224) && decide ((bn l 0 : Int) < 240)) = true := by simp; omega
        have z2 : ((3 : Int) == 0) = false := rfl
        have w : wi64 ((bn l 0 : Int) - 224) = ((bn l 0 - 224 : Nat) : Int) := by rw [wi64_id (by omega)]; omega
        rw [if_pos c3]
        simp only [e, if_true, z2, Option.bind_some, Bool.false_eq_true, if_false, w, hm]
        by_cases n1 : l.length < 3
        · have f : decide ((l.length : Int) < 3) = true := by simp; omega
          simp only [f, if_true, if_pos n1]
        · have f : decide ((l.length : Int) < 3) = false := by simp; omega
          simp only [f, Bool.false_eq_true, if_false, if_neg n1]
          rw [show ref03_Rune.l0 3 (strOfNums l) (m + 4) ((bn l 0 - 224 : Nat) : Int) 1 = _ from rstep h 3 (m + 3) (bn l 0 - 224) 1 (by omega) (by decide) (by omega) (by decide)]
          by_cases n2 : bn l 1 < 128 ∨ 191 < bn l 1
          · rw [if_pos n2, if_pos n2]; rfl
          · rw [if_neg n2, if_neg n2, rstep h 3 (m + 2) _ (1 + 1) (by omega) (by decide) (by omega) (by decide)]
            by_cases n3 : bn l 2 < 128 ∨ 191 < bn l 2
            · rw [if_pos n3, if_pos n3]; rfl
            · rw [if_neg n3, if_neg n3]
              rw [show ref03_Rune.l0 ((3 : Nat) : Int) (strOfNums l) (m + 2) ((((bn l 0 - 224) * 64 + bn l 1 - 128) * 64 + bn l (1 + 1) - 128 : Nat) : Int) ((1 + 1 + 1 : Nat) : Int) = _ from rend l 3 (m + 1) _]
              obtain ⟨v, hv⟩ : ∃ v, v = ((bn l 0 - 224) * 64 + bn l 1 - 128) * 64 + bn l 2 - 128 := ⟨_, rfl⟩
              rw [show ((bn l 0 - 224) * 64 + bn l 1 - 128) * 64 + bn l (1 + 1) - 128 = v from hv.symm]
              have q2 : decide ((v : Int) > 1114111) = false := by simp; omega
              simp only [Option.bind_some, orS, q2, Bool.false_or, Bool.false_eq_true, if_false]
              by_cases n4 : v < 2048 ∨ (55296 ≤ v ∧ v ≤ 57343)
              · have q : (decide ((v : Int) < 2048) || (decide ((v : Int) ≥ 55296) && decide ((v : Int) ≤ 57343))) = true := by simp; omega
                rw [if_pos n4]; simp only [q, if_true]
              · have q : (decide ((v : Int) < 2048) || (decide ((v : Int) ≥ 55296) && decide ((v : Int) ≤ 57343))) = false := by simp; omega
                rw [if_neg n4]; simp only [q, Bool.false_eq_true, if_false]
      · have e : (decide ((bn l 0 : Int) ≥ 224) && decide ((bn l 0 : Int) < 240)) = false := by simp; omega
        rw [if_neg c3]
        simp only [e, Bool.false_eq_true, if_false]
        by_cases c4 : 240 ≤ bn l 0 ∧ bn l 0 < 245
        · have e : (decide ((bn l 0 : Int) ≥ 240) && decide ((bn l 0 : Int) < 245)) = true := by simp; omega
          have z2 : ((4 : Int) == 0) = false := rfl
          have w : wi64 ((bn l 0 : Int) - 240) = ((bn l 0 - 240 : Nat) : Int) := by rw [wi64_id (by omega)]; omega
          rw [if_pos c4]
          simp only [e, if_true, z2, Option.bind_some, Bool.false_eq_true, if_false, w, hm]
          by_cases n1 : l.length < 4
          · have f : decide ((l.length : Int) < 4) = true := by simp; omega
            simp only [f, if_true, if_pos n1]
          · have f : decide ((l.length : Int) < 4) = false := by simp; omega
            simp only [f, Bool.false_eq_true, if_false, if_neg n1]
            rw [show ref03_Rune.l0 4 (strOfNums l) (m + 4) ((bn l 0 - 240 : Nat) : Int) 1 = _ from rstep h 4 (m + 3) (bn l 0 - 240) 1 (by omega) (by decide) (by omega) (by decide)]
            by_cases n2 : bn l 1 < 128 ∨ 191 < bn l 1
            · rw [if_pos n2, if_pos n2]; rfl
            · rw [if_neg n2, if_neg n2, rstep h 4 (m + 2) _ (1 + 1) (by omega) (by decide) (by omega) (by decide)]
              by_cases n3 : bn l 2 < 128 ∨ 191 < bn l 2
              · rw [if_pos n3, if_pos n3]; rfl
              · rw [if_neg n3, if_neg n3, rstep h 4 (m + 1) _ (1 + 1 + 1) (by have b2' : bn l (1 + 1) < 256 := b2; omega) (by decide) (by omega) (by decide)]
                by_cases n5 : bn l 3 < 128 ∨ 191 < bn l 3
                · rw [if_pos n5, if_pos n5]; rfl
                · rw [if_neg n5, if_neg n5]
                  rw [show ref03_Rune.l0 ((4 : Nat) : Int) (strOfNums l) (m + 1) (((((bn l 0 - 240) * 64 + bn l 1 - 128) * 64 + bn l (1 + 1) - 128) * 64 + bn l (1 + 1 + 1) - 128 : Nat) : Int) ((1 + 1 + 1 + 1 : Nat) : Int) = _ from rend l 4 m _]
                  obtain ⟨v, hv⟩ : ∃ v, v = (((bn l 0 - 240) * 64 + bn l 1 - 128) * 64 + bn l 2 - 128) * 64 + bn l 3 - 128 := ⟨_, rfl⟩
                  rw [show (((bn l 0 - 240) * 64 + bn l 1 - 128) * 64 + bn l (1 + 1) - 128) * 64 + bn l (1 + 1 + 1) - 128 = v from hv.symm]
                  simp only [Option.bind_some, orS]
                  by_cases n4 : v < 65536 ∨ 1114111 < v
                  · have q : (decide ((v : Int) < 65536) || (decide ((v : Int) > 1114111) || (decide ((v : Int) ≥ 55296) && decide ((v : Int) ≤ 57343)))) = true := by simp; omega
                    rw [if_pos n4]; simp only [q, if_true]
                  · have q : (decide ((v : Int) < 65536) || (decide ((v : Int) > 1114111) || (decide ((v : Int) ≥ 55296) && decide ((v : Int) ≤ 57343)))) = false := by simp; omega
                    rw [if_neg n4]; simp only [q, Bool.false_eq_true, if_false]
        · have e : (decide ((bn l 0 : Int) ≥ 240) && decide ((bn l 0 : Int) < 245)) = false := by simp; omega
          rw [if_neg c4]
          simp only [e, Bool.false_eq_true, if_false]
          rfl
theorem ref03_Rune_dec {l : List Int} (h : isB l) (hl : l ≠ []) : ref03_Rune (strOfNums l) = some (if bad l then (-1, 1) else (((dec l).1 : Int), ((dec l).2 : Int))) := by
  have hlen := List.length_pos_iff.2 hl
  rw [ref03_Rune_str h hl, rr_dec _ _ _ _ _ hlen (bn_lt h 0) (bn_lt h 1) (bn_lt h 2) (bn_lt h 3)]
  rfl
end Go.Cen

/- UTF-8: a rune's bytes, there and back. -/
set_option linter.unusedVariables false
set_option linter.unusedSimpArgs false
namespace Go.Cen
open Go.Lib (decodeN firstT accLo accHi slowN slow_eq)
/-- a rune's bytes -/
def encI (v : Nat) : List Int :=
  if v < 128 then [(v : Int)] else if v < 2048 then [((192 + v / 64 : Nat) : Int), ((128 + v % 64 : Nat) : Int)]
  else if v < 65536 then [((224 + v / 4096 : Nat) : Int), ((128 + v / 64 % 64 : Nat) : Int), ((128 + v % 64 : Nat) : Int)]
  else [((240 + v / 262144 : Nat) : Int), ((128 + v / 4096 % 64 : Nat) : Int), ((128 + v / 64 % 64 : Nat) : Int), ((128 + v % 64 : Nat) : Int)]
theorem or192 : ∀ n < 32, bOr .u8 192 ((n : Nat) : Int) = ((192 + n : Nat) : Int) := by decide +kernel
theorem or224 : ∀ n < 16, bOr .u8 224 ((n : Nat) : Int) = ((224 + n : Nat) : Int) := by decide +kernel
theorem or240 : ∀ n < 8, bOr .u8 240 ((n : Nat) : Int) = ((240 + n : Nat) : Int) := by decide +kernel
theorem or128' : ∀ n < 64, bOr .u8 128 ((n : Nat) : Int) = ((128 + n : Nat) : Int) := by decide +kernel
theorem shr6 (v : Nat) : bShr .i32 (v : Int) 6 = ((v / 64 : Nat) : Int) := by
  have := bShr_eq (k := .i32) (x := (v : Int)) (n := 6) (by decide)
  refine Eq.trans this ?_
  norm_cast
theorem shr12 (v : Nat) : bShr .i32 (v : Int) 12 = ((v / 4096 : Nat) : Int) := by
  have := bShr_eq (k := .i32) (x := (v : Int)) (n := 12) (by decide)
  refine Eq.trans this ?_
  norm_cast
theorem shr18 (v : Nat) : bShr .i32 (v : Int) 18 = ((v / 262144 : Nat) : Int) := by
  have := bShr_eq (k := .i32) (x := (v : Int)) (n := 18) (by decide)
  refine Eq.trans this ?_
  norm_cast
theorem wu8_nat (n : Nat) : wu8 (n : Int) = ((n % 256 : Nat) : Int) := by rw [wu8_eq]; omega
theorem tail_byte (n : Nat) : bOr .u8 128 (bAnd .u8 (wu8 (n : Int)) 63) = ((128 + n % 64 : Nat) : Int) := by
  rw [wu8_nat, and63 _ (Nat.mod_lt _ (by decide)), or128' _ (Nat.mod_lt _ (by decide))]
  congr 1; omega
set_option maxRecDepth 10000 in
theorem appendRune_eq (buf : List Int) (v : Nat) (hv : v ≤ 1114111) (hs : v < 55296 ∨ 57344 ≤ v) (hL : buf.length + 4 ≤ LIM) : utf8_AppendRune buf (v : Int) = some (buf ++ encI v) := by
  have hw : wu32 (v : Int) = (v : Int) := by rw [wu32_eq]; omega
  unfold utf8_AppendRune encI
  rw [hw]
  by_cases c1 : v < 128
  · have d1 : decide ((v : Int) ≤ 127) = true := by simp; omega
    have e8 : wu8 (v : Int) = (v : Int) := by rw [wu8_eq]; omega
    rw [if_pos c1]
    simp only [d1, if_true, e8]
    rw [if_pos (by simp; omega)]
  · have d1 : decide ((v : Int) ≤ 127) = false := by simp; omega
    rw [if_neg c1]
    simp only [d1, Bool.false_eq_true, if_false, utf8_appendRuneNonASCII, hw]
    by_cases c2 : v < 2048
    · have d2 : decide ((v : Int) ≤ 2047) = true := by simp; omega
      have e1 : bOr .u8 192 (wu8 (bShr .i32 (v : Int) 6)) = ((192 + v / 64 : Nat) : Int) := by
        rw [shr6, wu8_nat, Nat.mod_eq_of_lt (by omega), or192 _ (by omega)]
      rw [if_pos c2]
      simp only [d2, if_true, e1, tail_byte]
      rw [if_pos (by simp; omega)]; rfl
    · have d2 : decide ((v : Int) ≤ 2047) = false := by simp; omega
      rw [if_neg c2]
      simp only [d2, Bool.false_eq_true, if_false]
      by_cases c3 : v < 65536
      · have e1 : bOr .u8 224 (wu8 (bShr .i32 (v : Int) 12)) = ((224 + v / 4096 : Nat) : Int) := by
          rw [shr12, wu8_nat, Nat.mod_eq_of_lt (by omega), or224 _ (by omega)]
        have d3 : ((if decide ((v : Int) < 55296) = true then some (decide ((v : Int) < 55296)) else (if decide ((57343 : Int) < (v : Int)) = true then some (decide ((v : Int) ≤ 65535)) else some false)) : Option Bool) = some true := by
          by_cases q : v < 55296
          · have : decide ((v : Int) < 55296) = true := by simp; omega
            simp [this]
          · have h1 : decide ((v : Int) < 55296) = false := by simp; omega
            have h2 : decide ((57343 : Int) < (v : Int)) = true := by simp; omega
            have h3 : decide ((v : Int) ≤ 65535) = true := by simp; omega
            simp [h1, h2, h3]
        rw [if_pos c3]
        simp only [d3, Option.bind_some, if_true, e1, shr6, tail_byte]
        rw [if_pos (by simp; omega)]; rfl
      · have e1 : bOr .u8 240 (wu8 (bShr .i32 (v : Int) 18)) = ((240 + v / 262144 : Nat) : Int) := by
          rw [shr18, wu8_nat, Nat.mod_eq_of_lt (by omega), or240 _ (by omega)]
        have h1 : decide ((v : Int) < 55296) = false := by simp; omega
        have h2 : decide ((57343 : Int) < (v : Int)) = true := by simp; omega
        have h3 : decide ((v : Int) ≤ 65535) = false := by simp; omega
        have h4 : decide ((v : Int) > 65535) = true := by simp; omega
        have h5 : decide ((v : Int) ≤ 1114111) = true := by simp; omega
        rw [if_neg c3]
        simp only [h1, h2, h3, h4, h5, Option.bind_some, if_true, Bool.false_eq_true, if_false, e1, shr12, shr6, tail_byte]
        rw [if_pos (by simp; omega)]; rfl
/-! ### taken out of a list -/
theorem take1 {l : List Int} (h : isB l) (hn : 1 ≤ l.length) : l.take 1 = [(bn l 0 : Int)] := by
  match l, hn with
  | a :: r, _ => have := gt_bn h 0; simp only [List.take_succ_cons, List.take_zero]; rw [← this]; rfl
theorem take2 {l : List Int} (h : isB l) (hn : 2 ≤ l.length) : l.take 2 = [(bn l 0 : Int), (bn l 1 : Int)] := by
  match l, hn with
  | a :: b :: r, _ => have h0 := gt_bn h 0; have h1 := gt_bn h 1; simp only [List.take_succ_cons, List.take_zero]; rw [← h0, ← h1]; rfl
theorem take3 {l : List Int} (h : isB l) (hn : 3 ≤ l.length) : l.take 3 = [(bn l 0 : Int), (bn l 1 : Int), (bn l 2 : Int)] := by
  match l, hn with
  | a :: b :: c :: r, _ => have h0 := gt_bn h 0; have h1 := gt_bn h 1; have h2 := gt_bn h 2; simp only [List.take_succ_cons, List.take_zero]; rw [← h0, ← h1, ← h2]; rfl
theorem take4 {l : List Int} (h : isB l) (hn : 4 ≤ l.length) : l.take 4 = [(bn l 0 : Int), (bn l 1 : Int), (bn l 2 : Int), (bn l 3 : Int)] := by
  match l, hn with
  | a :: b :: c :: d :: r, _ => have h0 := gt_bn h 0; have h1 := gt_bn h 1; have h2 := gt_bn h 2; have h3 := gt_bn h 3; simp only [List.take_succ_cons, List.take_zero]; rw [← h0, ← h1, ← h2, ← h3]; rfl
/-- the classes, with what each byte is -/
theorem good_cases {l : List Int} (h : isB l) (hl : l ≠ []) (hb : ¬ bad l) :
    (bn l 0 < 128 ∧ dec l = (bn l 0, 1)) ∨
    (194 ≤ bn l 0 ∧ bn l 0 < 224 ∧ 2 ≤ l.length ∧ 128 ≤ bn l 1 ∧ bn l 1 ≤ 191 ∧ dec l = ((bn l 0 - 192) * 64 + bn l 1 - 128, 2)) ∨
    (224 ≤ bn l 0 ∧ bn l 0 < 240 ∧ 3 ≤ l.length ∧ 128 ≤ bn l 1 ∧ bn l 1 ≤ 191 ∧ 128 ≤ bn l 2 ∧ bn l 2 ≤ 191 ∧ 2048 ≤ ((bn l 0 - 224) * 64 + bn l 1 - 128) * 64 + bn l 2 - 128 ∧ (((bn l 0 - 224) * 64 + bn l 1 - 128) * 64 + bn l 2 - 128 < 55296 ∨ 57344 ≤ ((bn l 0 - 224) * 64 + bn l 1 - 128) * 64 + bn l 2 - 128) ∧ dec l = (((bn l 0 - 224) * 64 + bn l 1 - 128) * 64 + bn l 2 - 128, 3)) ∨
    (240 ≤ bn l 0 ∧ bn l 0 < 245 ∧ 4 ≤ l.length ∧ 128 ≤ bn l 1 ∧ bn l 1 ≤ 191 ∧ 128 ≤ bn l 2 ∧ bn l 2 ≤ 191 ∧ 128 ≤ bn l 3 ∧ bn l 3 ≤ 191 ∧ 65536 ≤ (((bn l 0 - 240) * 64 + bn l 1 - 128) * 64 + bn l 2 - 128) * 64 + bn l 3 - 128 ∧ (((bn l 0 - 240) * 64 + bn l 1 - 128) * 64 + bn l 2 - 128) * 64 + bn l 3 - 128 ≤ 1114111 ∧ dec l = ((((bn l 0 - 240) * 64 + bn l 1 - 128) * 64 + bn l 2 - 128) * 64 + bn l 3 - 128, 4)) := by
  have hlen := List.length_pos_iff.2 hl
  have b0 := bn_lt h 0; have b1 := bn_lt h 1; have b2 := bn_lt h 2; have b3 := bn_lt h 3
  unfold bad at hb
  by_cases c0 : bn l 0 < 128
  · exact .inl ⟨c0, dec_small c0⟩
  · by_cases c2 : 194 ≤ bn l 0 ∧ bn l 0 < 224
    · have e : dec l = _ := dN2 l.length (bn l 0) (bn l 1) (bn l 2) (bn l 3) hlen b1 c2
      by_cases d : l.length < 2 ∨ (bn l 1 < 128 ∨ 191 < bn l 1)
      · rw [if_pos d] at e; exact absurd e hb
      · rw [if_neg d] at e
        exact .inr (.inl ⟨c2.1, c2.2, by omega, by omega, by omega, e⟩)
    · by_cases c3 : 224 ≤ bn l 0 ∧ bn l 0 < 240
      · have e : dec l = _ := dN3 l.length (bn l 0) (bn l 1) (bn l 2) (bn l 3) hlen b1 b2 c3
        split at e
        · exact absurd e hb
        · exact .inr (.inr (.inl ⟨c3.1, c3.2, by omega, by omega, by omega, by omega, by omega, by omega, by omega, e⟩))
      · by_cases c4 : 240 ≤ bn l 0 ∧ bn l 0 < 245
        · have e : dec l = _ := dN4 l.length (bn l 0) (bn l 1) (bn l 2) (bn l 3) hlen b1 b2 b3 c4
          split at e
          · exact absurd e hb
          · exact .inr (.inr (.inr ⟨c4.1, c4.2, by omega, by omega, by omega, by omega, by omega, by omega, by omega, by omega, by omega, e⟩))
        · exact absurd (dNx l.length (bn l 0) (bn l 1) (bn l 2) (bn l 3) b0 b1 (by omega)) hb
/-- a rune's bytes are those that it was read from -/
theorem enc_dec {l : List Int} (h : isB l) (hl : l ≠ []) (hb : ¬ bad l) : encI (dec l).1 = l.take (dec l).2 := by
  have hlen := List.length_pos_iff.2 hl
  rcases good_cases h hl hb with ⟨a, e⟩ | ⟨a1, a2, a3, a4, a5, e⟩ | ⟨a1, a2, a3, a4, a5, a6, a7, a8, a9, e⟩ | ⟨a1, a2, a3, a4, a5, a6, a7, a8, a9, a10, a11, e⟩
  · rw [e]; simp only; rw [take1 h hlen, encI, if_pos a]
  · obtain ⟨v, hv⟩ : ∃ v, v = (bn l 0 - 192) * 64 + bn l 1 - 128 := ⟨_, rfl⟩
    rw [← hv] at e
    have q0 : 192 + v / 64 = bn l 0 := by omega
    have q1 : 128 + v % 64 = bn l 1 := by omega
    rw [e]; simp only; rw [take2 h a3, encI, if_neg (by omega), if_pos (by omega), q0, q1]
  · obtain ⟨v, hv⟩ : ∃ v, v = ((bn l 0 - 224) * 64 + bn l 1 - 128) * 64 + bn l 2 - 128 := ⟨_, rfl⟩
    rw [← hv] at e a8
    have q0 : 224 + v / 4096 = bn l 0 := by omega
    have q1 : 128 + v / 64 % 64 = bn l 1 := by omega
    have q2 : 128 + v % 64 = bn l 2 := by omega
    rw [e]; simp only; rw [take3 h a3, encI, if_neg (by omega), if_neg (by omega), if_pos (by omega), q0, q1, q2]
  · obtain ⟨v, hv⟩ : ∃ v, v = (((bn l 0 - 240) * 64 + bn l 1 - 128) * 64 + bn l 2 - 128) * 64 + bn l 3 - 128 := ⟨_, rfl⟩
    rw [← hv] at e a10 a11
    have q0 : 240 + v / 262144 = bn l 0 := by omega
    have q1 : 128 + v / 4096 % 64 = bn l 1 := by omega
    have q2 : 128 + v / 64 % 64 = bn l 2 := by omega
    have q3 : 128 + v % 64 = bn l 3 := by omega
    rw [e]; simp only; rw [take4 h a3, encI, if_neg (by omega), if_neg (by omega), if_neg (by omega), q0, q1, q2, q3]
end Go.Cen

/- NAME: a text's runes, one by one. -/
set_option linter.unusedVariables false
set_option linter.unusedSimpArgs false
namespace Go.Cen
open Go.Lib (decodeN firstT accLo accHi slowN slow_eq)
theorem drop_lt {l : List Int} (h : ¬ l = []) : (l.drop (dec l).2).length < l.length := by
  have := dec_w l h
  have := List.length_pos_iff.2 h
  rw [List.length_drop]; omega
theorem seg_ind {P : List Int → Prop} (h0 : P []) (h1 : ∀ l, l ≠ [] → isB l → P (l.drop (dec l).2) → P l) : ∀ l, isB l → P l := by
  have key : ∀ (n : Nat) (l : List Int), l.length ≤ n → isB l → P l := by
    intro n
    induction n with
    | zero => intro l hl _; rw [List.length_eq_zero_iff.1 (by omega : l.length = 0)]; exact h0
    | succ n ih =>
      intro l hl hB
      by_cases h : l = []
      · rw [h]; exact h0
      · have := drop_lt h
        exact h1 l h hB (ih _ (by omega) (isB_drop hB _))
  exact fun l => key l.length l (Nat.le_refl _)
/-- a rune, a broken byte behind all others -/
def runeI (l : List Int) : Int := if bad l then 1114112 + (bn l 0 : Int) else ((dec l).1 : Int)
def runesL (l : List Int) : List Int := if h : l = [] then [] else runeI l :: runesL (l.drop (dec l).2)
termination_by l.length
decreasing_by exact drop_lt h
theorem runesL_nil : runesL [] = [] := by rw [runesL]; simp
theorem runesL_cons {l : List Int} (h : l ≠ []) : runesL l = runeI l :: runesL (l.drop (dec l).2) := by rw [runesL]; simp [h]
def cnt (l : List Int) : Nat := (runesL l).length
theorem cnt_nil : cnt [] = 0 := by rw [cnt, runesL_nil]; rfl
theorem cnt_cons {l : List Int} (h : l ≠ []) : cnt l = cnt (l.drop (dec l).2) + 1 := by rw [cnt, runesL_cons h]; rfl
theorem cnt_le : ∀ l, isB l → cnt l ≤ l.length := by
  refine seg_ind (by rw [cnt_nil]; exact Nat.le_refl _) (fun l hl hB ih => ?_)
  have := drop_lt hl
  rw [cnt_cons hl]; omega
/-- a loop over a text's runes -/
theorem loopR {σ β : Type} (l : List Int) (hB : isB l) (hn : l.length ≤ 2305843009213693952) (L : Nat → Nat → σ → β) (G : List Int → σ → β) (I : List Int → σ → Prop)
    (h0 : ∀ k s, I [] s → L (k + 1) l.length s = G [] s)
    (h1 : ∀ k (i : Nat) s, i < l.length → l.drop i ≠ [] → isB (l.drop i) → runeAt (strOfNums l) i = ((dec (l.drop i)).1 : Int) → runeW (strOfNums l) i = (dec (l.drop i)).2 → True → bt (strOfNums l) (i : Int) = (bn (l.drop i) 0 : Int) → I (l.drop i) s →
      (∀ s', I ((l.drop i).drop (dec (l.drop i)).2) s' → L k (i + (dec (l.drop i)).2) s' = G ((l.drop i).drop (dec (l.drop i)).2) s') → L (k + 1) i s = G (l.drop i) s) :
    ∀ s, I l s → L FU 0 s = G l s := by
  have key : ∀ (d i k : Nat), l.length - i ≤ d → i ≤ l.length → d < k → ∀ s, I (l.drop i) s → L k i s = G (l.drop i) s := by
    intro d
    induction d with
    | zero =>
      intro i k hd hi hk s hs
      obtain ⟨k, rfl⟩ : ∃ m, k = m + 1 := ⟨k - 1, by omega⟩
      have : i = l.length := by omega
      subst this
      rw [List.drop_length] at hs ⊢
      exact h0 k s hs
    | succ d ih =>
      intro i k hd hi hk s hs
      obtain ⟨k, rfl⟩ : ∃ m, k = m + 1 := ⟨k - 1, by omega⟩
      by_cases he : i = l.length
      · subst he
        rw [List.drop_length] at hs ⊢
        exact h0 k s hs
      · have hne : l.drop i ≠ [] := by intro e; have := List.drop_eq_nil_iff.1 e; omega
        have hw := dec_w _ hne
        rw [List.length_drop] at hw
        have hr := runeAt_str hB hi
        have hbr : True := trivial
        refine h1 k i s (by omega) hne (isB_drop hB i) hr (runeW_str hB hi) hbr (by rw [bt_bn hB, bn_drop]; rfl) hs (fun s' hs' => ?_)
        rw [List.drop_drop] at hs' ⊢
        exact ih (i + (dec (l.drop i)).2) k (by omega) (by omega) (by omega) s' hs'
  intro s hs
  have hF : FU = 4611686018427387904 := rfl
  have := key l.length 0 FU (by omega) (by omega) (by omega) s (by simpa using hs)
  simpa using this
theorem name_Count_str {l : List Int} (hB : isB l) (hn : l.length ≤ 1000000) : name_Count (strOfNums l) = some (cnt l : Int) := by
  unfold name_Count
  have := loopR l hB (by omega) (fun k i (s : Nat) => name_Count.l0 (strOfNums l) k (s : Int) i) (fun r s => some ((s + cnt r : Nat) : Int)) (fun r s => s + r.length ≤ 1000000)
    (fun k s hs => by
      simp only [name_Count.l0, strOfNums_size, Nat.lt_irrefl, if_false, cnt_nil, Nat.add_zero])
    (fun k i s hi hne hB' hr hw hbr hbt hI ih => by
      have hlt := drop_lt hne
      have hw1 : wi64 ((s : Int) + 1) = ((s + 1 : Nat) : Int) := by rw [wi64_id (by omega)]; omega
      simp only [name_Count.l0, strOfNums_size, hi, if_true, hw, hw1]
      rw [ih (s + 1) (by omega), cnt_cons hne]
      congr 2; omega) 0 (by omega)
  rw [show name_Count.l0 (strOfNums l) FU 0 0 = _ from this]
  simp
/-! ### a text as it is shown -/
def hexd (n : Nat) : Int := bt (⟨#[48, 49, 50, 51, 52, 53, 54, 55, 56, 57, 97, 98, 99, 100, 101, 102]⟩ : ByteArray) (n : Int)
def shown (l : List Int) : List Int :=
  if (dec l).1 = 34 ∨ (dec l).1 = 92 then [92, ((dec l).1 : Int)] else if (dec l).1 = 10 then [92, 110]
  else if (dec l).1 < 32 ∨ (dec l).1 = 127 ∨ bad l then [92, 120, hexd (bn l 0 / 16), hexd (bn l 0 % 16)] else l.take (dec l).2
def body (l : List Int) : List Int := if h : l = [] then [] else shown l ++ body (l.drop (dec l).2)
termination_by l.length
decreasing_by exact drop_lt h
theorem body_nil : body [] = [] := by rw [body]; simp
theorem body_cons {l : List Int} (h : l ≠ []) : body l = shown l ++ body (l.drop (dec l).2) := by rw [body]; simp [h]
def quoteL (l : List Int) : List Int := [34] ++ body l ++ [34]
theorem shown_len (l : List Int) (hl : l ≠ []) : (shown l).length ≤ 4 := by
  have := dec_w l hl
  unfold shown
  repeat' split
  all_goals (simp; try omega)
theorem hexd_b (n : Nat) : 0 ≤ hexd n ∧ hexd n < 256 := by
  unfold hexd
  rw [bt_eq]
  exact gt_all (p := fun x => 0 ≤ x ∧ x < 256) (byts_isB _) ⟨by decide, by decide⟩ _
theorem shown_isB {l : List Int} (h : isB l) : isB (shown l) := by
  unfold shown
  split
  · rename_i hh
    intro x hx
    simp only [List.mem_cons, List.not_mem_nil, or_false] at hx
    rcases hx with rfl | rfl
    · omega
    · rcases hh with e | e <;> rw [e] <;> decide
  · split
    · intro x hx
      simp only [List.mem_cons, List.not_mem_nil, or_false] at hx
      rcases hx with rfl | rfl <;> decide
    · split
      · intro x hx
        simp only [List.mem_cons, List.not_mem_nil, or_false] at hx
        rcases hx with rfl | rfl | rfl | rfl
        · decide
        · decide
        · exact hexd_b _
        · exact hexd_b _
      · exact isB_take h _
theorem body_isB : ∀ l, isB l → isB (body l) := by
  refine seg_ind (by rw [body_nil]; exact isB_nil) (fun l hl hB ih => ?_)
  rw [body_cons hl]
  exact isB_app (shown_isB hB) ih
theorem body_len : ∀ l, isB l → (body l).length ≤ 4 * l.length := by
  refine seg_ind (by rw [body_nil]; exact Nat.le_refl _) (fun l hl hB ih => ?_)
  have a := shown_len l hl
  have b := drop_lt hl
  rw [body_cons hl, List.length_append]; omega
theorem isB_34 : isB [34] := by intro x hx; simp at hx; omega
theorem quoteL_isB {l : List Int} (h : isB l) : isB (quoteL l) := isB_app (isB_app isB_34 (body_isB l h)) isB_34
theorem quoteL_len {l : List Int} (h : isB l) : (quoteL l).length ≤ 4 * l.length + 2 := by
  have := body_len l h
  simp [quoteL]; omega
theorem copy_eq (fl : Bool) (buf : List Int) : strings_Builder_copyCheck fl buf = some (true, buf) := by cases fl <;> rfl
theorem writeByte_eq (fl : Bool) (buf : List Int) (x : Int) (h : buf.length + 1 ≤ LIM) : strings_Builder_WriteByte fl buf x = some (Dyn57.nil, true, buf ++ [x]) := by
  simp only [strings_Builder_WriteByte, copy_eq, Option.bind_some]
  rw [if_pos (by simpa using h)]
theorem writeRune_eq (fl : Bool) (buf : List Int) (v : Nat) (hv : v ≤ 1114111) (hs : v < 55296 ∨ 57344 ≤ v) (h : buf.length + 4 ≤ LIM) :
    strings_Builder_WriteRune fl buf (v : Int) = some (wi64 (((buf ++ encI v).length : Int) - (buf.length : Int)), Dyn57.nil, true, buf ++ encI v) := by
  simp only [strings_Builder_WriteRune, copy_eq, Option.bind_some, appendRune_eq buf v hv hs h]
theorem digits_size : ((⟨#[48, 49, 50, 51, 52, 53, 54, 55, 56, 57, 97, 98, 99, 100, 101, 102]⟩ : ByteArray).size : Int) = 16 := rfl
end Go.Cen

/- NAME: what is shown is read back. -/
set_option linter.unusedVariables false
set_option linter.unusedSimpArgs false
namespace Go.Cen
def digs : ByteArray := ⟨#[48, 49, 50, 51, 52, 53, 54, 55, 56, 57, 97, 98, 99, 100, 101, 102]⟩
theorem take_high {l : List Int} (h : isB l) (hl : l ≠ []) (hb : ¬ bad l) (h2 : 2 ≤ (dec l).2) : ∀ x ∈ l.take (dec l).2, 128 ≤ x := by
  rcases good_cases h hl hb with ⟨a, e⟩ | ⟨a1, a2, a3, a4, a5, e⟩ | ⟨a1, a2, a3, a4, a5, a6, a7, a8, a9, e⟩ | ⟨a1, a2, a3, a4, a5, a6, a7, a8, a9, a10, a11, e⟩
  · rw [e] at h2; simp at h2
  · rw [e]; simp only; rw [take2 h a3]
    intro x hx
    simp only [List.mem_cons, List.not_mem_nil, or_false] at hx
    rcases hx with rfl | rfl <;> omega
  · rw [e]; simp only; rw [take3 h a3]
    intro x hx
    simp only [List.mem_cons, List.not_mem_nil, or_false] at hx
    rcases hx with rfl | rfl | rfl <;> omega
  · rw [e]; simp only; rw [take4 h a3]
    intro x hx
    simp only [List.mem_cons, List.not_mem_nil, or_false] at hx
    rcases hx with rfl | rfl | rfl | rfl <;> omega
/-- small runes are one byte -/
theorem dec_one {l : List Int} (h : isB l) (hl : l ≠ []) (hs : (dec l).1 < 128) : (dec l).1 = bn l 0 ∧ (dec l).2 = 1 := by
  rcases dec_cases l hl h with ⟨a, e⟩ | ⟨_, e⟩ | ⟨_, a, _⟩
  · rw [e]; exact ⟨rfl, rfl⟩
  · have := bad_w e; rw [this] at hs; simp at hs
  · omega
/-! ### the program's own reading -/
theorem drop_str (l : List Int) (k : Nat) (hk : k ≤ l.length) : sx (strOfNums l) (k : Int) (l.length : Int) = strOfNums (l.drop k) := by
  rw [sx_str]; simp
end Go.Cen

/- NAME: the runes of what is shown. -/
set_option linter.unusedVariables false
set_option linter.unusedSimpArgs false
namespace Go.Cen
/-! ### the reference's runes -/
theorem ref03_Runes_str {l : List Int} (hB : isB l) (hn : l.length ≤ 1000000) : ref03_Runes (strOfNums l) = some (runesL l) := by
  have hL := LIM_val
  unfold ref03_Runes
  have := loopR l hB (by omega) (fun k i (s : List Int) => ref03_Runes.l0 (strOfNums l) k s (i : Int)) (fun r s => some (s ++ runesL r)) (fun r s => s.length + r.length ≤ 1000000)
    (fun k s hs => by
      have hd : decide (((l.length : Nat) : Int) < (l.length : Int)) = false := by simp
      simp only [ref03_Runes.l0, strOfNums_size, hd, runesL_nil, List.append_nil]
      rfl)
    (fun k i s hi hne hB' hr hw hbr hbt hI ih => by
      have hlt := drop_lt hne
      have b0 := bn_lt hB' 0
      have hd : decide ((i : Int) < (l.length : Int)) = true := by simp; omega
      have hg : (0 : Int) ≤ (i : Int) ∧ (i : Int) < (l.length : Int) := ⟨by omega, by omega⟩
      have hs : sx (strOfNums l) (i : Int) (l.length : Int) = strOfNums (l.drop i) := drop_str l i (by omega)
      have hw4 := dec_w _ hne
      simp only [ref03_Runes.l0, strOfNums_size, hd, if_true, hs]
      rw [if_pos (by omega), ref03_Rune_dec hB' hne]
      simp only [Option.bind_some]
      have hstep : ∀ (v : Int) (w : Nat), v = runeI (l.drop i) → w = (dec (l.drop i)).2 →
          (if s.length + ([v] : List Int).length ≤ LIM then ref03_Runes.l0 (strOfNums l) k (s ++ [v]) (wi64 ((i : Int) + (w : Int))) else none) = some (s ++ runesL (l.drop i)) := by
        intro v w hv hw'
        have hwi : wi64 ((i : Int) + (w : Int)) = ((i + (dec (l.drop i)).2 : Nat) : Int) := by rw [hw', wi64_id (by omega)]; omega
        rw [if_pos (by simp; omega), hwi, ih (s ++ [v]) (by simp only [List.length_append, List.length_cons, List.length_nil]; omega), runesL_cons hne, hv]
        simp
      by_cases hb : bad (l.drop i)
      · rw [if_pos hb]
        have d : decide ((-1 : Int) < 0) = true := rfl
        have e1 : wi64 (bn (l.drop i) 0 : Int) = (bn (l.drop i) 0 : Int) := wi64_id (by omega)
        have e2 : wi64 (1114112 + (bn (l.drop i) 0 : Int)) = 1114112 + (bn (l.drop i) 0 : Int) := wi64_id (by omega)
        simp only [d, hg, and_self, if_true, hbt, e1, e2, Option.bind_some]
        exact hstep _ 1 (by unfold runeI; rw [if_pos hb]) (by rw [bad_w hb])
      · rw [if_neg hb]
        have d : decide (((dec (l.drop i)).1 : Int) < 0) = false := by simp
        simp only [d, Bool.false_eq_true, if_false, Option.bind_some]
        exact hstep _ _ (by unfold runeI; rw [if_neg hb]) rfl) [] (by simpa using hn)
  rw [show ref03_Runes.l0 (strOfNums l) FU [] 0 = _ from this]
  simp
end Go.Cen

/- NAME: what a name is; joining. -/
set_option linter.unusedVariables false
set_option linter.unusedSimpArgs false
namespace Go.Cen
/-- runes that no name has -/
def oddN (r : Int) : Bool := decide (r < 32) || ((r == 47) || ((decide (127 ≤ r) && decide (r ≤ 159)) || (r == 65533)))
theorem name_Valid_1_eq (r : Int) : name_Valid_1 r = some (oddN r) := by
  unfold name_Valid_1 oddN
  by_cases h1 : r < 32
  · simp [h1]
  · by_cases h2 : r = 47
    · simp [h2]
    · by_cases h3 : 127 ≤ r
      · by_cases h4 : r ≤ 159
        · simp [h1, h2, h3, h4]
        · simp [h1, h2, h3, h4]
      · simp [h1, h2, h3]
def segsOk (l : List Int) : Bool := if h : l = [] then true else !oddN ((dec l).1 : Int) && segsOk (l.drop (dec l).2)
termination_by l.length
decreasing_by exact drop_lt h
theorem segsOk_nil : segsOk [] = true := by rw [segsOk]; simp
theorem segsOk_cons {l : List Int} (h : l ≠ []) : segsOk l = (!oddN ((dec l).1 : Int) && segsOk (l.drop (dec l).2)) := by rw [segsOk]; simp [h]
theorem segsOk_good {l : List Int} (h : l ≠ []) (hs : segsOk l = true) : ¬ bad l ∧ oddN ((dec l).1 : Int) = false ∧ segsOk (l.drop (dec l).2) = true := by
  rw [segsOk_cons h, Bool.and_eq_true, Bool.not_eq_true'] at hs
  refine ⟨fun hb => ?_, hs.1, hs.2⟩
  have := hs.1
  rw [bad_w hb] at this
  simp [oddN] at this
theorem indexFunc_str {l : List Int} (hB : isB l) (hn : l.length ≤ 1000000) : ∃ v, strings_IndexFunc__name_Valid_1 (strOfNums l) = some v ∧ decide (v < 0) = segsOk l := by
  have hl := loopR l hB (by omega) (fun k i (_ : Unit) => (strings_indexFunc__name_Valid_1.l0 (strOfNums l) true k i).bind fun r => some (match r with | .inl v => decide (v < 0) | .inr _ => true)) (fun r _ => some (segsOk r)) (fun _ _ => True)
    (fun k s hs => by
      simp only [strings_indexFunc__name_Valid_1.l0, strOfNums_size, Nat.lt_irrefl, if_false, segsOk_nil, Option.bind_some])
    (fun k i s hi hne hB' hr hw hbr hbt hI ih => by
      have ih' := ih () trivial
      simp only [strings_indexFunc__name_Valid_1.l0, strOfNums_size, hi, if_true, hr, hw, name_Valid_1_eq, Option.bind_some]
      rw [segsOk_cons hne]
      cases ho : oddN ((dec (l.drop i)).1 : Int) with
      | true =>
        simp only [BEq.rfl, if_true, Option.bind_some, Bool.not_true, Bool.false_and]
        simp
      | false =>
        have : (false == true) = false := rfl
        simp only [this, Bool.false_eq_true, if_false, Bool.not_false, Bool.true_and]
        exact ih') () trivial
  unfold strings_IndexFunc__name_Valid_1 strings_indexFunc__name_Valid_1
  cases hq : strings_indexFunc__name_Valid_1.l0 (strOfNums l) true FU 0 with
  | none => rw [hq] at hl; cases hl
  | some r =>
    rw [hq] at hl
    simp only [Option.bind_some, Option.some.injEq] at hl
    cases r with
    | inl v => exact ⟨v, rfl, hl⟩
    | inr u => exact ⟨-1, rfl, by rw [← hl]; rfl⟩
def validN (l : List Int) : Bool := decide (0 < cnt l) && (decide (cnt l ≤ 24) && (segsOk l && ((bn l 0 != 32) && (bn l (l.length - 1) != 32))))
theorem name_Valid_str {l : List Int} (hB : isB l) (hn : l.length ≤ 100000) : name_Valid (strOfNums l) = some (validN l) := by
  unfold name_Valid validN
  rw [name_Count_str hB (by omega)]
  simp only [Option.bind_some]
  by_cases h1 : 0 < cnt l
  · have d1 : decide ((cnt l : Int) > 0) = true := by simp; omega
    have hne : l ≠ [] := by intro e; rw [e, cnt_nil] at h1; omega
    have hlen := List.length_pos_iff.2 hne
    simp only [d1, if_true, h1, decide_true, Bool.true_and]
    by_cases h2 : cnt l ≤ 24
    · have d2 : decide ((cnt l : Int) ≤ 24) = true := by simp; omega
      obtain ⟨v, hv1, hv2⟩ := indexFunc_str hB (by omega)
      simp only [d2, if_true, h2, decide_true, Bool.true_and, hv1, Option.bind_some, hv2]
      cases segsOk l with
      | false => rfl
      | true =>
        have hw : wi64 ((l.length : Int) - 1) = ((l.length - 1 : Nat) : Int) := by rw [wi64_id (by omega)]; omega
        have hb0 : bt (strOfNums l) 0 = (bn l 0 : Int) := bt_bn hB 0
        simp only [if_true, strOfNums_size, hb0, hw, bt_bn hB, Bool.true_and]
        rw [if_pos (by omega)]
        by_cases h3 : bn l 0 = 32
        · have : ((bn l 0 : Int) != 32) = false := by simp [h3]
          simp [this, h3]
        · have : ((bn l 0 : Int) != 32) = true := by simp; omega
          have h3' : (bn l 0 != 32) = true := by simpa using h3
          simp only [this, if_true, h3', Bool.true_and]
          rw [if_pos (by omega)]
          simp only [Option.bind_some]
          congr 1
          by_cases h4 : bn l (l.length - 1) = 32
          · simp [h4]
          · have a : ((bn l (l.length - 1) : Int) != 32) = true := by simp; omega
            have b : (bn l (l.length - 1) != 32) = true := by simpa using h4
            rw [a, b]
    · have d2 : decide ((cnt l : Int) ≤ 24) = false := by simp; omega
      simp [d2, h2]
  · have d1 : decide ((cnt l : Int) > 0) = false := by simp; omega
    simp [d1, h1]
theorem valid_segs {l : List Int} (h : validN l = true) : segsOk l = true := by
  simp only [validN, Bool.and_eq_true] at h
  exact h.2.2.1
end Go.Cen

/- NAME: the reference's words: order, digits, what is shown. -/
set_option linter.unusedVariables false
set_option linter.unusedSimpArgs false
namespace Go.Cen
/-! ### the reference's showing -/
theorem digs_sub : ∀ k < 16, sx digs ((k : Nat) : Int) (((k + 1 : Nat)) : Int) = strOfNums [hexd k] := by decide +kernel
set_option maxRecDepth 10000 in
theorem ref03_Quote_str {l : List Int} (hB : isB l) (hn : l.length ≤ 1000000) : ref03_Quote (strOfNums l) = some (strOfNums (quoteL l)) := by
  have hL := LIM_val
  have hbl := body_len l hB
  have e110 : (⟨#[110]⟩ : ByteArray) = strOfNums [110] := rfl
  have e120 : (⟨#[120]⟩ : ByteArray) = strOfNums [120] := rfl
  unfold ref03_Quote
  have := loopR l hB (by omega) (fun k i (s : List Int) => ref03_Quote.l0 (strOfNums l) k (strOfNums s) (i : Int)) (fun r s => some (strOfNums (s ++ body r))) (fun r s => s.length + 4 * r.length ≤ 4000100)
    (fun k s hs => by
      have hd : decide (((l.length : Nat) : Int) < (l.length : Int)) = false := by simp
      simp only [ref03_Quote.l0, strOfNums_size, hd, body_nil, List.append_nil]
      rfl)
    (fun k i s hi hne hB' hr hw hbr hbt hI ih => by
      have hlt := drop_lt hne
      have b0 := bn_lt hB' 0
      have hd : decide ((i : Int) < (l.length : Int)) = true := by simp; omega
      have hg : (0 : Int) ≤ (i : Int) ∧ (i : Int) < (l.length : Int) := ⟨by omega, by omega⟩
      have hs : sx (strOfNums l) (i : Int) (l.length : Int) = strOfNums (l.drop i) := drop_str l i (by omega)
      have hw4 := dec_w _ hne
      have hlen : (l.drop i).length = l.length - i := List.length_drop
      have hsub : ∀ w : Nat, w ≤ l.length - i → sx (strOfNums l) (i : Int) ((i + w : Nat) : Int) = strOfNums ((l.drop i).take w) := by
        intro w hw
        rw [sx_str, Int.toNat_natCast, Int.toNat_natCast, List.drop_take, Nat.add_sub_cancel_left]
      obtain ⟨x, hx⟩ : ∃ x, x = l.drop i := ⟨_, rfl⟩
      rw [← hx] at hne hB' hr hw hbt hI ih hlt b0 hs hw4 hlen hsub ⊢
      have hbody := body_cons hne
      have hx1 : 1 ≤ x.length := List.length_pos_iff.2 hne
      simp only [ref03_Quote.l0, strOfNums_size, hd, if_true, hs]
      rw [if_pos (by omega), ref03_Rune_dec hB' hne]
      simp only [Option.bind_some, hg, and_self, if_true, hbt]
      have w1 : wi64 (bn x 0 : Int) = (bn x 0 : Int) := wi64_id (by omega)
      have wi1 : wi64 ((i : Int) + 1) = ((i + 1 : Nat) : Int) := by rw [wi64_id (by omega)]; omega
      -- what is shown, and the width
      have hfin : ∀ (T : List Int) (w : Nat), shown x = T → w = (dec x).2 → ref03_Quote.l0 (strOfNums l) k (strOfNums (s ++ T)) (wi64 ((i : Int) + (w : Int))) = some (strOfNums (s ++ body x)) := by
        intro T w hT hw'
        have hT4 := shown_len x hne
        have hwi : wi64 ((i : Int) + (w : Int)) = ((i + (dec x).2 : Nat) : Int) := by rw [hw', wi64_id (by omega)]; omega
        rw [hwi, ih (s ++ T) (by rw [List.length_append, ← hT]; rw [List.length_drop]; omega), hbody, hT, List.append_assoc]
      by_cases hb : bad x
      · rw [if_pos hb]
        have hd1 := bad_w hb
        have hsh : shown x = [92, 120, hexd (bn x 0 / 16), hexd (bn x 0 % 16)] := by
          unfold shown
          rw [hd1]; simp only
          rw [if_neg (by omega), if_neg (by omega), if_pos (.inr (.inr hb))]
        have q1 : (((-1 : Int) == 34) || ((-1 : Int) == 92)) = false := rfl
        have q2 : ((-1 : Int) == 10) = false := rfl
        have q3 : decide ((-1 : Int) ≥ 32) = false := rfl
        have t1 : (bn x 0 : Int).tdiv 16 = ((bn x 0 / 16 : Nat) : Int) := by rw [Int.tdiv_eq_ediv_of_nonneg (by omega)]; omega
        have t2 : (bn x 0 : Int).tmod 16 = ((bn x 0 % 16 : Nat) : Int) := by rw [Int.tmod_eq_emod_of_nonneg (by omega)]; omega
        have t3 : wi64 ((bn x 0 / 16 : Nat) : Int) = ((bn x 0 / 16 : Nat) : Int) := wi64_id (by omega)
        have t4 : wi64 (((bn x 0 / 16 : Nat) : Int) + 1) = ((bn x 0 / 16 + 1 : Nat) : Int) := by rw [wi64_id (by omega)]; omega
        have t5 : wi64 (((bn x 0 % 16 : Nat) : Int) + 1) = ((bn x 0 % 16 + 1 : Nat) : Int) := by rw [wi64_id (by omega)]; omega
        have t6 := digs_sub (bn x 0 / 16) (by omega)
        have t7 := digs_sub (bn x 0 % 16) (by omega)
        unfold digs at t6 t7
        simp only [orS, q1, q2, q3, Bool.false_eq_true, if_false, Option.bind_some, w1, t1, t2, t3, t4, t5, t6, t7, e110, e120, strOfNums_append, strOfNums_size, digits_size]
        rw [if_pos (by simp; omega), if_pos (by simp; omega), if_pos (by omega), if_pos (by simp; omega), if_pos (by omega), if_pos (by simp; omega)]
        simp only [Option.bind_some]
        have := hfin _ 1 hsh (by rw [hd1])
        simpa using this
      · rw [if_neg hb]
        simp only [orS, Option.bind_some]
        by_cases c1 : (dec x).1 = 34 ∨ (dec x).1 = 92
        · have d1 : ((((dec x).1 : Int) == 34) || (((dec x).1 : Int) == 92)) = true := by simp; omega
          obtain ⟨o1, o2⟩ := dec_one hB' hne (by omega)
          have hsh : shown x = [92, ((dec x).1 : Int)] := by unfold shown; rw [if_pos c1]
          have hs1 := hsub 1 (by omega)
          rw [take1 hB' hx1] at hs1
          simp only [d1, if_true, wi1, hs1, strOfNums_append, strOfNums_size]
          rw [if_pos (by simp; omega), if_pos (by refine ⟨trivial, ?_, ?_⟩ <;> omega), if_pos (by simp; omega)]
          simp only [Option.bind_some]
          have := hfin _ _ hsh rfl
          rw [o1] at this
          simpa using this
        · have d1 : ((((dec x).1 : Int) == 34) || (((dec x).1 : Int) == 92)) = false := by simp; omega
          simp only [d1, Bool.false_eq_true, if_false]
          by_cases c2 : (dec x).1 = 10
          · have d2 : (((dec x).1 : Int) == 10) = true := by simp; omega
            have hsh : shown x = [92, 110] := by unfold shown; rw [if_neg c1, if_pos c2]
            simp only [d2, if_true, e110, strOfNums_append, strOfNums_size]
            rw [if_pos (by simp; omega), if_pos (by simp; omega)]
            simp only [Option.bind_some]
            have := hfin _ _ hsh rfl
            simpa using this
          · have d2 : (((dec x).1 : Int) == 10) = false := by simp; omega
            simp only [d2, Bool.false_eq_true, if_false]
            by_cases c3 : (dec x).1 < 32 ∨ (dec x).1 = 127
            · have d3 : (if decide (((dec x).1 : Int) ≥ 32) = true then some (((dec x).1 : Int) != 127) else some false) = some false := by
                rcases c3 with c | c
                · have : decide (((dec x).1 : Int) ≥ 32) = false := by simp; omega
                  simp [this]
                · simp [c]
              have hsh : shown x = [92, 120, hexd (bn x 0 / 16), hexd (bn x 0 % 16)] := by
                unfold shown
                rw [if_neg c1, if_neg c2, if_pos (by rcases c3 with c | c <;> simp [c])]
              have t1 : (bn x 0 : Int).tdiv 16 = ((bn x 0 / 16 : Nat) : Int) := by rw [Int.tdiv_eq_ediv_of_nonneg (by omega)]; omega
              have t2 : (bn x 0 : Int).tmod 16 = ((bn x 0 % 16 : Nat) : Int) := by rw [Int.tmod_eq_emod_of_nonneg (by omega)]; omega
              have t3 : wi64 ((bn x 0 / 16 : Nat) : Int) = ((bn x 0 / 16 : Nat) : Int) := wi64_id (by omega)
              have t4 : wi64 (((bn x 0 / 16 : Nat) : Int) + 1) = ((bn x 0 / 16 + 1 : Nat) : Int) := by rw [wi64_id (by omega)]; omega
              have t5 : wi64 (((bn x 0 % 16 : Nat) : Int) + 1) = ((bn x 0 % 16 + 1 : Nat) : Int) := by rw [wi64_id (by omega)]; omega
              have t6 := digs_sub (bn x 0 / 16) (by omega)
              have t7 := digs_sub (bn x 0 % 16) (by omega)
              unfold digs at t6 t7
              simp only [d3, Bool.false_eq_true, if_false, Option.bind_some, w1, t1, t2, t3, t4, t5, t6, t7, e110, e120, strOfNums_append, strOfNums_size, digits_size]
              rw [if_pos (by simp; omega), if_pos (by simp; omega), if_pos (by omega), if_pos (by simp; omega), if_pos (by omega), if_pos (by simp; omega)]
              simp only [Option.bind_some]
              have := hfin _ _ hsh rfl
              simpa using this
            · have d3 : (if decide (((dec x).1 : Int) ≥ 32) = true then some (((dec x).1 : Int) != 127) else some false) = some true := by
                have a1 : decide (((dec x).1 : Int) ≥ 32) = true := by simp; omega
                have a2 : (((dec x).1 : Int) != 127) = true := by simp; omega
                rw [a1, a2]; rfl
              have hsh : shown x = x.take (dec x).2 := by
                unfold shown
                rw [if_neg c1, if_neg c2, if_neg (by intro h; rcases h with h | h | h; exact c3 (.inl h); exact c3 (.inr h); exact hb h)]
              have hwi : wi64 ((i : Int) + ((dec x).2 : Int)) = ((i + (dec x).2 : Nat) : Int) := by rw [wi64_id (by omega)]; omega
              simp only [d3, Option.bind_some, if_true]
              rw [hwi, hsub _ (by omega), if_pos (by refine ⟨trivial, ?_, ?_⟩ <;> omega)]
              simp only [strOfNums_append, strOfNums_size]
              rw [if_pos (by simp only [List.length_take]; omega)]
              simp only [Option.bind_some]
              have := hfin _ _ hsh rfl
              rw [hwi] at this
              exact this) [34] (by simp; omega)
  rw [show ref03_Quote.l0 (strOfNums l) FU (strOfNums [34]) 0 = _ from this]
  simp only [Option.bind_some, strOfNums_append, strOfNums_size]
  rw [if_pos (by simp; omega)]
  rfl
end Go.Cen

/- NAME: the reference's reading back. -/
set_option linter.unusedVariables false
set_option linter.unusedSimpArgs false
namespace Go.Cen
theorem map_some {α β : Type} {f : α → β} {x : Option α} {y : β} (h : x.map f = some y) : ∃ a, x = some a ∧ f a = y := by
  cases x with
  | none => cases h
  | some a => exact ⟨a, rfl, Option.some.inj h⟩
end Go.Cen
