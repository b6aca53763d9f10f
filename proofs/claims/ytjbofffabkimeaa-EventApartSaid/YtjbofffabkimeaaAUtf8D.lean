/- UTF-8: a rune's bytes, there and back. -/
import Derived.Test.YtjbofffabkimeaaAUtf8C
set_option linter.unusedVariables false
set_option linter.unusedSimpArgs false
namespace Go.Cen
open Go.Lib (decodeN firstT accLo accHi slowN slow_eq)
/-- a rune's bytes -/
def encI (v : Nat) : List Int :=
  if v < 128 then [(v : Int)] else if v < 2048 then [((192 + v / 64 : Nat) : Int), ((128 + v % 64 : Nat) : Int)]
  else if v < 65536 then [((224 + v / 4096 : Nat) : Int), ((128 + v / 64 % 64 : Nat) : Int), ((128 + v % 64 : Nat) : Int)]
  else [((240 + v / 262144 : Nat) : Int), ((128 + v / 4096 % 64 : Nat) : Int), ((128 + v / 64 % 64 : Nat) : Int), ((128 + v % 64 : Nat) : Int)]
theorem or192 : ∀ n < 32, bOr .u8 192 ((n : Nat) : Int) = ((192 + n : Nat) : Int) := by decide +kernel
theorem or224 : ∀ n < 16, bOr .u8 224 ((n : Nat) : Int) = ((224 + n : Nat) : Int) := by decide +kernel
theorem or240 : ∀ n < 8, bOr .u8 240 ((n : Nat) : Int) = ((240 + n : Nat) : Int) := by decide +kernel
theorem or128' : ∀ n < 64, bOr .u8 128 ((n : Nat) : Int) = ((128 + n : Nat) : Int) := by decide +kernel
theorem shr6 (v : Nat) : bShr .i32 (v : Int) 6 = ((v / 64 : Nat) : Int) := by
  have := bShr_eq (k := .i32) (x := (v : Int)) (n := 6) (by decide)
  refine Eq.trans this ?_
  norm_cast
theorem shr12 (v : Nat) : bShr .i32 (v : Int) 12 = ((v / 4096 : Nat) : Int) := by
  have := bShr_eq (k := .i32) (x := (v : Int)) (n := 12) (by decide)
  refine Eq.trans this ?_
  norm_cast
theorem shr18 (v : Nat) : bShr .i32 (v : Int) 18 = ((v / 262144 : Nat) : Int) := by
  have := bShr_eq (k := .i32) (x := (v : Int)) (n := 18) (by decide)
  refine Eq.trans this ?_
  norm_cast
theorem wu8_nat (n : Nat) : wu8 (n : Int) = ((n % 256 : Nat) : Int) := by rw [wu8_eq]; omega
theorem tail_byte (n : Nat) : bOr .u8 128 (bAnd .u8 (wu8 (n : Int)) 63) = ((128 + n % 64 : Nat) : Int) := by
  rw [wu8_nat, and63 _ (Nat.mod_lt _ (by decide)), or128' _ (Nat.mod_lt _ (by decide))]
  congr 1; omega
set_option maxRecDepth 10000 in
theorem appendRune_eq (buf : List Int) (v : Nat) (hv : v ≤ 1114111) (hs : v < 55296 ∨ 57344 ≤ v) (hL : buf.length + 4 ≤ LIM) : utf8_AppendRune buf (v : Int) = some (buf ++ encI v) := by
  have hw : wu32 (v : Int) = (v : Int) := by rw [wu32_eq]; omega
  unfold utf8_AppendRune encI
  rw [hw]
  by_cases c1 : v < 128
  · have d1 : decide ((v : Int) ≤ 127) = true := by simp; omega
    have e8 : wu8 (v : Int) = (v : Int) := by rw [wu8_eq]; omega
    rw [if_pos c1]
    simp only [d1, if_true, e8]
    rw [if_pos (by simp; omega)]
  · have d1 : decide ((v : Int) ≤ 127) = false := by simp; omega
    rw [if_neg c1]
    simp only [d1, Bool.false_eq_true, if_false, utf8_appendRuneNonASCII, hw]
    by_cases c2 : v < 2048
    · have d2 : decide ((v : Int) ≤ 2047) = true := by simp; omega
      have e1 : bOr .u8 192 (wu8 (bShr .i32 (v : Int) 6)) = ((192 + v / 64 : Nat) : Int) := by
        rw [shr6, wu8_nat, Nat.mod_eq_of_lt (by omega), or192 _ (by omega)]
      rw [if_pos c2]
      simp only [d2, if_true, e1, tail_byte]
      rw [if_pos (by simp; omega)]; rfl
    · have d2 : decide ((v : Int) ≤ 2047) = false := by simp; omega
      rw [if_neg c2]
      simp only [d2, Bool.false_eq_true, if_false]
      by_cases c3 : v < 65536
      · have e1 : bOr .u8 224 (wu8 (bShr .i32 (v : Int) 12)) = ((224 + v / 4096 : Nat) : Int) := by
          rw [shr12, wu8_nat, Nat.mod_eq_of_lt (by omega), or224 _ (by omega)]
        have d3 : ((if decide ((v : Int) < 55296) = true then some (decide ((v : Int) < 55296)) else (if decide ((57343 : Int) < (v : Int)) = true then some (decide ((v : Int) ≤ 65535)) else some false)) : Option Bool) = some true := by
          by_cases q : v < 55296
          · have : decide ((v : Int) < 55296) = true := by simp; omega
            simp [this]
          · have h1 : decide ((v : Int) < 55296) = false := by simp; omega
            have h2 : decide ((57343 : Int) < (v : Int)) = true := by simp; omega
            have h3 : decide ((v : Int) ≤ 65535) = true := by simp; omega
            simp [h1, h2, h3]
        rw [if_pos c3]
        simp only [d3, Option.bind_some, if_true, e1, shr6, tail_byte]
        rw [if_pos (by simp; omega)]; rfl
      · have e1 : bOr .u8 240 (wu8 (bShr .i32 (v : Int) 18)) = ((240 + v / 262144 : Nat) : Int) := by
          rw [shr18, wu8_nat, Nat.mod_eq_of_lt (by omega), or240 _ (by omega)]
        have h1 : decide ((v : Int) < 55296) = false := by simp; omega
        have h2 : decide ((57343 : Int) < (v : Int)) = true := by simp; omega
        have h3 : decide ((v : Int) ≤ 65535) = false := by simp; omega
        have h4 : decide ((v : Int) > 65535) = true := by simp; omega
        have h5 : decide ((v : Int) ≤ 1114111) = true := by simp; omega
        rw [if_neg c3]
        simp only [h1, h2, h3, h4, h5, Option.bind_some, if_true, Bool.false_eq_true, if_false, e1, shr12, shr6, tail_byte]
        rw [if_pos (by simp; omega)]; rfl
/-! ### taken out of a list -/
theorem take1 {l : List Int} (h : isB l) (hn : 1 ≤ l.length) : l.take 1 = [(bn l 0 : Int)] := by
  match l, hn with
  | a :: r, _ => have := gt_bn h 0; simp only [List.take_succ_cons, List.take_zero]; rw [← this]; rfl
theorem take2 {l : List Int} (h : isB l) (hn : 2 ≤ l.length) : l.take 2 = [(bn l 0 : Int), (bn l 1 : Int)] := by
  match l, hn with
  | a :: b :: r, _ => have h0 := gt_bn h 0; have h1 := gt_bn h 1; simp only [List.take_succ_cons, List.take_zero]; rw [← h0, ← h1]; rfl
theorem take3 {l : List Int} (h : isB l) (hn : 3 ≤ l.length) : l.take 3 = [(bn l 0 : Int), (bn l 1 : Int), (bn l 2 : Int)] := by
  match l, hn with
  | a :: b :: c :: r, _ => have h0 := gt_bn h 0; have h1 := gt_bn h 1; have h2 := gt_bn h 2; simp only [List.take_succ_cons, List.take_zero]; rw [← h0, ← h1, ← h2]; rfl
theorem take4 {l : List Int} (h : isB l) (hn : 4 ≤ l.length) : l.take 4 = [(bn l 0 : Int), (bn l 1 : Int), (bn l 2 : Int), (bn l 3 : Int)] := by
  match l, hn with
  | a :: b :: c :: d :: r, _ => have h0 := gt_bn h 0; have h1 := gt_bn h 1; have h2 := gt_bn h 2; have h3 := gt_bn h 3; simp only [List.take_succ_cons, List.take_zero]; rw [← h0, ← h1, ← h2, ← h3]; rfl
/-- the classes, with what each byte is -/
theorem good_cases {l : List Int} (h : isB l) (hl : l ≠ []) (hb : ¬ bad l) :
    (bn l 0 < 128 ∧ dec l = (bn l 0, 1)) ∨
    (194 ≤ bn l 0 ∧ bn l 0 < 224 ∧ 2 ≤ l.length ∧ 128 ≤ bn l 1 ∧ bn l 1 ≤ 191 ∧ dec l = ((bn l 0 - 192) * 64 + bn l 1 - 128, 2)) ∨
    (224 ≤ bn l 0 ∧ bn l 0 < 240 ∧ 3 ≤ l.length ∧ 128 ≤ bn l 1 ∧ bn l 1 ≤ 191 ∧ 128 ≤ bn l 2 ∧ bn l 2 ≤ 191 ∧ 2048 ≤ ((bn l 0 - 224) * 64 + bn l 1 - 128) * 64 + bn l 2 - 128 ∧ (((bn l 0 - 224) * 64 + bn l 1 - 128) * 64 + bn l 2 - 128 < 55296 ∨ 57344 ≤ ((bn l 0 - 224) * 64 + bn l 1 - 128) * 64 + bn l 2 - 128) ∧ dec l = (((bn l 0 - 224) * 64 + bn l 1 - 128) * 64 + bn l 2 - 128, 3)) ∨
    (240 ≤ bn l 0 ∧ bn l 0 < 245 ∧ 4 ≤ l.length ∧ 128 ≤ bn l 1 ∧ bn l 1 ≤ 191 ∧ 128 ≤ bn l 2 ∧ bn l 2 ≤ 191 ∧ 128 ≤ bn l 3 ∧ bn l 3 ≤ 191 ∧ 65536 ≤ (((bn l 0 - 240) * 64 + bn l 1 - 128) * 64 + bn l 2 - 128) * 64 + bn l 3 - 128 ∧ (((bn l 0 - 240) * 64 + bn l 1 - 128) * 64 + bn l 2 - 128) * 64 + bn l 3 - 128 ≤ 1114111 ∧ dec l = ((((bn l 0 - 240) * 64 + bn l 1 - 128) * 64 + bn l 2 - 128) * 64 + bn l 3 - 128, 4)) := by
  have hlen := List.length_pos_iff.2 hl
  have b0 := bn_lt h 0; have b1 := bn_lt h 1; have b2 := bn_lt h 2; have b3 := bn_lt h 3
  unfold bad at hb
  by_cases c0 : bn l 0 < 128
  · exact .inl ⟨c0, dec_small c0⟩
  · by_cases c2 : 194 ≤ bn l 0 ∧ bn l 0 < 224
    · have e : dec l = _ := dN2 l.length (bn l 0) (bn l 1) (bn l 2) (bn l 3) hlen b1 c2
      by_cases d : l.length < 2 ∨ (bn l 1 < 128 ∨ 191 < bn l 1)
      · rw [if_pos d] at e; exact absurd e hb
      · rw [if_neg d] at e
        exact .inr (.inl ⟨c2.1, c2.2, by omega, by omega, by omega, e⟩)
    · by_cases c3 : 224 ≤ bn l 0 ∧ bn l 0 < 240
      · have e : dec l = _ := dN3 l.length (bn l 0) (bn l 1) (bn l 2) (bn l 3) hlen b1 b2 c3
        split at e
        · exact absurd e hb
        · exact .inr (.inr (.inl ⟨c3.1, c3.2, by omega, by omega, by omega, by omega, by omega, by omega, by omega, e⟩))
      · by_cases c4 : 240 ≤ bn l 0 ∧ bn l 0 < 245
        · have e : dec l = _ := dN4 l.length (bn l 0) (bn l 1) (bn l 2) (bn l 3) hlen b1 b2 b3 c4
          split at e
          · exact absurd e hb
          · exact .inr (.inr (.inr ⟨c4.1, c4.2, by omega, by omega, by omega, by omega, by omega, by omega, by omega, by omega, by omega, e⟩))
        · exact absurd (dNx l.length (bn l 0) (bn l 1) (bn l 2) (bn l 3) b0 b1 (by omega)) hb
/-- a rune's bytes are those that it was read from -/
theorem enc_dec {l : List Int} (h : isB l) (hl : l ≠ []) (hb : ¬ bad l) : encI (dec l).1 = l.take (dec l).2 := by
  have hlen := List.length_pos_iff.2 hl
  rcases good_cases h hl hb with ⟨a, e⟩ | ⟨a1, a2, a3, a4, a5, e⟩ | ⟨a1, a2, a3, a4, a5, a6, a7, a8, a9, e⟩ | ⟨a1, a2, a3, a4, a5, a6, a7, a8, a9, a10, a11, e⟩
  · rw [e]; simp only; rw [take1 h hlen, encI, if_pos a]
  · obtain ⟨v, hv⟩ : ∃ v, v = (bn l 0 - 192) * 64 + bn l 1 - 128 := ⟨_, rfl⟩
    rw [← hv] at e
    have q0 : 192 + v / 64 = bn l 0 := by omega
    have q1 : 128 + v % 64 = bn l 1 := by omega
    rw [e]; simp only; rw [take2 h a3, encI, if_neg (by omega), if_pos (by omega), q0, q1]
  · obtain ⟨v, hv⟩ : ∃ v, v = ((bn l 0 - 224) * 64 + bn l 1 - 128) * 64 + bn l 2 - 128 := ⟨_, rfl⟩
    rw [← hv] at e a8
    have q0 : 224 + v / 4096 = bn l 0 := by omega
    have q1 : 128 + v / 64 % 64 = bn l 1 := by omega
    have q2 : 128 + v % 64 = bn l 2 := by omega
    rw [e]; simp only; rw [take3 h a3, encI, if_neg (by omega), if_neg (by omega), if_pos (by omega), q0, q1, q2]
  · obtain ⟨v, hv⟩ : ∃ v, v = (((bn l 0 - 240) * 64 + bn l 1 - 128) * 64 + bn l 2 - 128) * 64 + bn l 3 - 128 := ⟨_, rfl⟩
    rw [← hv] at e a10 a11
    have q0 : 240 + v / 262144 = bn l 0 := by omega
    have q1 : 128 + v / 4096 % 64 = bn l 1 := by omega
    have q2 : 128 + v / 64 % 64 = bn l 2 := by omega
    have q3 : 128 + v % 64 = bn l 3 := by omega
    rw [e]; simp only; rw [take4 h a3, encI, if_neg (by omega), if_neg (by omega), if_neg (by omega), q0, q1, q2, q3]
end Go.Cen
