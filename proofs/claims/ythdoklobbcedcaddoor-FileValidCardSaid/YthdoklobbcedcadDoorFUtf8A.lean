/- UTF-8: what a text's bytes begin with. -/
import Derived.Test.YthdoklobbcedcadDoorPx
import Derived.Test.YthdoklobbcedcadDoorCenPl
import Derived.Lib.DecodeNEq
set_option linter.unusedVariables false
set_option linter.unusedSimpArgs false
namespace Go.Cen
open Go.Lib (decodeN firstT accLo accHi slowN slow_eq)
/-- a byte, as a number -/
def bn (l : List Int) (k : Nat) : Nat := (gt l (k : Int)).toNat
/-- the rune that a list of bytes begins with, and its width -/
def dec (l : List Int) : Nat × Nat := decodeN l.length (bn l 0) (bn l 1) (bn l 2) (bn l 3)
theorem bn_lt {l : List Int} (h : isB l) (k : Nat) : bn l k < 256 := by
  have := gt_all (p := fun x => 0 ≤ x ∧ x < 256) h ⟨by decide, by decide⟩ (k : Int)
  unfold bn; omega
theorem gt_bn {l : List Int} (h : isB l) (k : Nat) : gt l (k : Int) = (bn l k : Int) := by
  have := gt_all (p := fun x => 0 ≤ x ∧ x < 256) h ⟨by decide, by decide⟩ (k : Int)
  unfold bn; omega
theorem bn_drop (l : List Int) (i k : Nat) : bn (l.drop i) k = bn l (i + k) := by
  show (List.getD (l.drop i) ((k : Int)).toNat default).toNat = (List.getD l ((i + k : Nat) : Int).toNat default).toNat
  rw [Int.toNat_natCast, Int.toNat_natCast]
  simp [List.getD_eq_getElem?_getD, List.getElem?_drop]
theorem get!_str {l : List Int} (h : isB l) (i : Nat) : ((strOfNums l).get! i).toNat = bn l i := by
  have e1 : ((strOfNums l).get! i) = (strOfNums l).data.toList.getD i default := by
    show (strOfNums l).data[i]! = _
    rw [← Array.getElem!_toList]
    simp [List.getD_eq_getElem?_getD, List.getElem!_eq_getElem?_getD]
  rw [e1, strOfNums_data]
  simp only [bn, gt, Int.toNat_natCast, List.getD_eq_getElem?_getD, List.getElem?_map]
  cases hh : l[i]? with
  | none => rfl
  | some v =>
    have := h v (List.mem_of_getElem? hh)
    simp [UInt8.toNat_ofNat']
    omega
theorem decode_str {l : List Int} (h : isB l) {i : Nat} (hi : i ≤ l.length) : Utf8.decode (strOfNums l) i = dec (l.drop i) := by
  rw [Go.Lib.decode_at, strOfNums_size, get!_str h, get!_str h, get!_str h, get!_str h]
  unfold dec
  rw [List.length_drop, bn_drop, bn_drop, bn_drop, bn_drop]
  rfl
theorem runeAt_str {l : List Int} (h : isB l) {i : Nat} (hi : i ≤ l.length) : runeAt (strOfNums l) i = ((dec (l.drop i)).1 : Int) := by rw [runeAt, decode_str h hi]
theorem runeW_str {l : List Int} (h : isB l) {i : Nat} (hi : i ≤ l.length) : runeW (strOfNums l) i = (dec (l.drop i)).2 := by rw [runeW, decode_str h hi]
/-! ### what decoding gives -/
def bad (l : List Int) : Prop := dec l = (65533, 1)
theorem dec_w (l : List Int) (hl : l ≠ []) : 1 ≤ (dec l).2 ∧ (dec l).2 ≤ 4 ∧ (dec l).2 ≤ l.length := by
  have := List.length_pos_iff.2 hl
  unfold dec decodeN
  repeat' split
  all_goals (refine ⟨?_, ?_, ?_⟩ <;> simp only <;> omega)
theorem tab0_eq : ∀ b < 256, gt tab0 ((b : Nat) : Int) = (firstT b : Int) := by decide +kernel
theorem tab1_lo : ∀ b < 16, (gt tab1 ((b : Nat) : Int)).lo = (accLo b : Int) := by decide +kernel
theorem tab1_hi : ∀ b < 16, (gt tab1 ((b : Nat) : Int)).hi = (accHi b : Int) := by decide +kernel
/-! ### the words' arithmetic -/
theorem wi32_id {x : Int} (h : -2147483648 ≤ x ∧ x < 2147483648) : wi32 x = x := by
  have hw : wi32 x = (if 2147483648 ≤ x % 4294967296 then x % 4294967296 - 4294967296 else x % 4294967296) := by
    simp [wi32, IntKind.wrap, IntKind.bits, IntKind.signed]
  rw [hw]; split <;> omega
theorem bOr_i32 (x y : Nat) (hx : x < 2 ^ 30) (hy : y < 2 ^ 30) : bOr .i32 (x : Int) (y : Int) = ((x ||| y : Nat) : Int) := by
  have h : x ||| y < 2 ^ 30 := Nat.or_lt_two_pow hx hy
  have hb : (2 : Nat) ^ IntKind.bits .i32 = 4294967296 := rfl
  have e : (BitVec.ofInt (IntKind.bits .i32) (x : Int) ||| BitVec.ofInt (IntKind.bits .i32) (y : Int)).toNat = x ||| y := by
    simp only [BitVec.ofInt_natCast, BitVec.toNat_or, BitVec.toNat_ofNat]
    rw [hb, Nat.mod_eq_of_lt (by omega), Nat.mod_eq_of_lt (by omega)]
  rw [bOr, e]
  exact wi32_id (by omega)
theorem bShl_i32 (x n : Nat) (hn : n ≤ 32) (h : x * 2 ^ n < 2 ^ 30) : bShl .i32 (x : Int) (n : Int) = ((x * 2 ^ n : Nat) : Int) := by
  have hm : min n 32 = n := by omega
  have : bShl .i32 (x : Int) (n : Int) = wi32 ((x : Int) * 2 ^ (min n 32)) := rfl
  rw [this, hm]
  have e : (x : Int) * 2 ^ n = ((x * 2 ^ n : Nat) : Int) := by push_cast; rfl
  rw [e]
  exact wi32_id (by omega)
theorem and63 : ∀ n < 256, bAnd .u8 ((n : Nat) : Int) 63 = ((n % 64 : Nat) : Int) := by decide +kernel
theorem and31 : ∀ n < 256, bAnd .u8 ((n : Nat) : Int) 31 = ((n % 32 : Nat) : Int) := by decide +kernel
theorem and15 : ∀ n < 256, bAnd .u8 ((n : Nat) : Int) 15 = ((n % 16 : Nat) : Int) := by decide +kernel
theorem and7 : ∀ n < 256, bAnd .u8 ((n : Nat) : Int) 7 = ((n % 8 : Nat) : Int) := by decide +kernel
theorem shr4 : ∀ n < 256, bShr .u8 ((n : Nat) : Int) 4 = ((n / 16 : Nat) : Int) := by decide +kernel
theorem join2 {a b : Nat} (ha : a < 32) (hb : b < 64) : bOr .i32 (bShl .i32 (wi32 (a : Int)) 6) (wi32 (b : Int)) = ((a * 64 + b : Nat) : Int) := by
  rw [wi32_id (x := (a : Int)) (by omega), wi32_id (x := (b : Int)) (by omega), show (6 : Int) = ((6 : Nat) : Int) from rfl, bShl_i32 _ _ (by omega) (by omega), bOr_i32 _ _ (by omega) (by omega), or_add (by omega)]
theorem join3 {a b c : Nat} (ha : a < 16) (hb : b < 64) (hc : c < 64) : bOr .i32 (bOr .i32 (bShl .i32 (wi32 (a : Int)) 12) (bShl .i32 (wi32 (b : Int)) 6)) (wi32 (c : Int)) = ((a * 4096 + b * 64 + c : Nat) : Int) := by
  rw [wi32_id (x := (a : Int)) (by omega), wi32_id (x := (b : Int)) (by omega), wi32_id (x := (c : Int)) (by omega), show (6 : Int) = ((6 : Nat) : Int) from rfl, show (12 : Int) = ((12 : Nat) : Int) from rfl, bShl_i32 _ _ (by omega) (by omega), bShl_i32 _ _ (by omega) (by omega), bOr_i32 _ _ (by omega) (by omega), or_add (by omega),
    show a * 2 ^ 12 + b * 2 ^ 6 = (a * 2 ^ 6 + b) * 2 ^ 6 by omega, bOr_i32 _ _ (by omega) (by omega), or_add (by omega)]
theorem join4 {a b c d : Nat} (ha : a < 8) (hb : b < 64) (hc : c < 64) (hd : d < 64) : bOr .i32 (bOr .i32 (bOr .i32 (bShl .i32 (wi32 (a : Int)) 18) (bShl .i32 (wi32 (b : Int)) 12)) (bShl .i32 (wi32 (c : Int)) 6)) (wi32 (d : Int)) = ((a * 262144 + b * 4096 + c * 64 + d : Nat) : Int) := by
  rw [wi32_id (x := (a : Int)) (by omega), wi32_id (x := (b : Int)) (by omega), wi32_id (x := (c : Int)) (by omega), wi32_id (x := (d : Int)) (by omega), show (6 : Int) = ((6 : Nat) : Int) from rfl, show (12 : Int) = ((12 : Nat) : Int) from rfl, show (18 : Int) = ((18 : Nat) : Int) from rfl, bShl_i32 _ _ (by omega) (by omega), bShl_i32 _ _ (by omega) (by omega), bShl_i32 _ _ (by omega) (by omega), bOr_i32 _ _ (by omega) (by omega), or_add (by omega),
    show a * 2 ^ 18 + b * 2 ^ 12 = (a * 2 ^ 6 + b) * 2 ^ 12 by omega, bOr_i32 _ _ (by omega) (by omega), or_add (by omega),
    show (a * 2 ^ 6 + b) * 2 ^ 12 + c * 2 ^ 6 = (a * 2 ^ 12 + b * 2 ^ 6 + c) * 2 ^ 6 by omega, bOr_i32 _ _ (by omega) (by omega), or_add (by omega)]
theorem slow_bad : ∀ b < 256, 240 ≤ firstT b → 128 ≤ b → bOr .i32 (bAndNot .i32 (wi32 ((b : Nat) : Int)) (bShr .i32 (bShl .i32 (wi32 ((firstT b : Nat) : Int)) 31) 31)) (bAnd .i32 65533 (bShr .i32 (bShl .i32 (wi32 ((firstT b : Nat) : Int)) 31) 31)) = 65533 := by decide +kernel
theorem first_lt : ∀ b < 256, firstT b < 256 := by decide +kernel
theorem first_sz : ∀ b < 256, firstT b < 240 → firstT b / 16 < 16 ∧ 2 ≤ firstT b % 8 ∧ firstT b % 8 ≤ 4 := by decide +kernel
theorem acc_lt : ∀ b < 16, accLo b < 256 ∧ accHi b < 256 := by decide +kernel
theorem first_hi : ∀ b < 256, 240 ≤ firstT b → 128 ≤ b → b < 194 ∨ 245 ≤ b := by decide +kernel
theorem dec_bad {l : List Int} (hb : bn l 0 < 256) (h : 128 ≤ bn l 0) (h2 : bn l 0 < 194 ∨ 245 ≤ bn l 0) (h1 : bn l 1 < 256) : dec l = (65533, 1) := by
  unfold dec decodeN
  repeat' split
  all_goals first | rfl | (exfalso; omega)
theorem seq_nil_str {l : List Int} (h : isB l) : seq (strOfNums l) (⟨#[]⟩ : ByteArray) = decide (l = []) := seq_str h isB_nil
set_option maxRecDepth 10000 in
theorem decodeRune_str {l : List Int} (h : isB l) (hl : l ≠ []) : utf8_DecodeRuneInString (strOfNums l) = some (((dec l).1 : Int), ((dec l).2 : Int)) := by
  have hlen := List.length_pos_iff.2 hl
  have b0 := bn_lt h 0; have b1 := bn_lt h 1; have b2 := bn_lt h 2; have b3 := bn_lt h 3
  have g0 : (0 : Int) ≤ 0 ∧ (0 : Int) < (l.length : Int) := ⟨by omega, by omega⟩
  have hbt0 : bt (strOfNums l) 0 = (bn l 0 : Int) := by rw [bt_str h]; exact gt_bn h 0
  have hbt1 : bt (strOfNums l) 1 = (bn l 1 : Int) := by rw [bt_str h]; exact gt_bn h 1
  have hbt2 : bt (strOfNums l) 2 = (bn l 2 : Int) := by rw [bt_str h]; exact gt_bn h 2
  have hbt3 : bt (strOfNums l) 3 = (bn l 3 : Int) := by rw [bt_str h]; exact gt_bn h 3
  have hd : decide (l = []) = false := by simp [hl]
  simp only [utf8_DecodeRuneInString, seq_nil_str h, hd, Bool.not_false, if_true, strOfNums_size, g0, and_self, Option.bind_some, hbt0]
  by_cases ha : bn l 0 < 128
  · have d0 : decide ((bn l 0 : Int) < 128) = true := by simp; omega
    have hdec : dec l = (bn l 0, 1) := by unfold dec decodeN; rw [if_pos ha]
    simp only [d0, if_true, hdec]
    rw [wi32_id (by omega)]; rfl
  · have d0 : decide ((bn l 0 : Int) < 128) = false := by simp; omega
    simp only [d0, Bool.false_eq_true, if_false]
    have c1 : decide ((l.length : Int) < 1) = false := by simp; omega
    have c2 : (0 : Int) ≤ (bn l 0 : Int) ∧ (bn l 0 : Int) < 256 := ⟨by omega, by omega⟩
    simp only [utf8_decodeRuneInStringSlow, strOfNums_size, c1, Bool.false_eq_true, if_false, g0, and_self, if_true, hbt0, c2, tab0_eq _ b0]
    have hfl := first_lt _ b0
    by_cases hf : 240 ≤ firstT (bn l 0)
    · have d1 : decide (((firstT (bn l 0) : Nat) : Int) ≥ 240) = true := by simp; omega
      simp only [d1, if_true, slow_bad _ b0 hf (by omega), Option.bind_some]
      rw [dec_bad b0 (by omega) (first_hi _ b0 hf (by omega)) b1]
      rfl
    · have d1 : decide (((firstT (bn l 0) : Nat) : Int) ≥ 240) = false := by simp; omega
      obtain ⟨s1, s2, s3⟩ := first_sz _ b0 (by omega)
      obtain ⟨a1, a2⟩ := acc_lt _ s1
      have heq := slow_eq l.length (bn l 0) (bn l 1) (bn l 2) (bn l 3) (by omega) b1 b2 b3 (by omega)
      have hdl : dec l = slowN l.length (bn l 0) (bn l 1) (bn l 2) (bn l 3) (firstT (bn l 0) % 8) (accLo (firstT (bn l 0) / 16)) (accHi (firstT (bn l 0) / 16)) := heq.symm
      rw [hdl]
      have c3 : (0 : Int) ≤ ((firstT (bn l 0) / 16 : Nat) : Int) ∧ ((firstT (bn l 0) / 16 : Nat) : Int) < 16 := ⟨by omega, by omega⟩
      have hsz : wi64 ((firstT (bn l 0) % 8 : Nat) : Int) = ((firstT (bn l 0) % 8 : Nat) : Int) := wi64_id (by omega)
      simp only [d1, Bool.false_eq_true, if_false, shr4 _ hfl, c3, and_self, if_true, and7 _ hfl, hsz, hbt1, hbt2, hbt3, tab1_lo _ s1, tab1_hi _ s1]
      generalize hsg : firstT (bn l 0) % 8 = sz at *
      generalize hlo : accLo (firstT (bn l 0) / 16) = lo at *
      generalize hhi : accHi (firstT (bn l 0) / 16) = hi at *
      unfold slowN
      by_cases n1 : l.length < sz
      · have e1 : decide ((l.length : Int) < (sz : Int)) = true := by simp; omega
        simp only [e1, if_true, if_pos n1, Option.bind_some]; rfl
      · have e1 : decide ((l.length : Int) < (sz : Int)) = false := by simp; omega
        have g1 : (0 : Int) ≤ 1 ∧ (1 : Int) < (l.length : Int) := ⟨by omega, by omega⟩
        simp only [e1, Bool.false_eq_true, if_false, if_neg n1, g1, and_self, if_true, orS, Option.bind_some]
        by_cases n2 : bn l 1 < lo ∨ hi < bn l 1
        · have e2 : (decide ((bn l 1 : Int) < (lo : Int)) || decide ((hi : Int) < (bn l 1 : Int))) = true := by simp; omega
          simp only [e2, if_true, if_pos n2]; rfl
        · have e2 : (decide ((bn l 1 : Int) < (lo : Int)) || decide ((hi : Int) < (bn l 1 : Int))) = false := by simp; omega
          simp only [e2, Bool.false_eq_true, if_false, if_neg n2, and63 _ b1, and31 _ b0, and15 _ b0, and7 _ b0, and63 _ b2, and63 _ b3]
          by_cases n3 : sz ≤ 2
          · have e3 : decide ((sz : Int) ≤ 2) = true := by simp; omega
            simp only [e3, if_true, if_pos n3, join2 (Nat.mod_lt _ (by decide : 32 > 0)) (Nat.mod_lt _ (by decide : 64 > 0))]; rfl
          · have e3 : decide ((sz : Int) ≤ 2) = false := by simp; omega
            have g2 : (0 : Int) ≤ 2 ∧ (2 : Int) < (l.length : Int) := ⟨by omega, by omega⟩
            simp only [e3, Bool.false_eq_true, if_false, if_neg n3, g2, and_self, if_true]
            by_cases n4 : bn l 2 < 128 ∨ 191 < bn l 2
            · have e4 : (decide ((bn l 2 : Int) < 128) || decide ((191 : Int) < (bn l 2 : Int))) = true := by simp; omega
              simp only [e4, if_true, if_pos n4]; rfl
            · have e4 : (decide ((bn l 2 : Int) < 128) || decide ((191 : Int) < (bn l 2 : Int))) = false := by simp; omega
              simp only [e4, Bool.false_eq_true, if_false, if_neg n4]
              by_cases n5 : sz ≤ 3
              · have e5 : decide ((sz : Int) ≤ 3) = true := by simp; omega
                simp only [e5, if_true, if_pos n5, join3 (Nat.mod_lt _ (by decide : 16 > 0)) (Nat.mod_lt _ (by decide : 64 > 0)) (Nat.mod_lt _ (by decide : 64 > 0))]; rfl
              · have e5 : decide ((sz : Int) ≤ 3) = false := by simp; omega
                have g3 : (0 : Int) ≤ 3 ∧ (3 : Int) < (l.length : Int) := ⟨by omega, by omega⟩
                simp only [e5, Bool.false_eq_true, if_false, if_neg n5, g3, and_self, if_true]
                by_cases n6 : bn l 3 < 128 ∨ 191 < bn l 3
                · have e6 : (decide ((bn l 3 : Int) < 128) || decide ((191 : Int) < (bn l 3 : Int))) = true := by simp; omega
                  simp only [e6, if_true, if_pos n6]; rfl
                · have e6 : (decide ((bn l 3 : Int) < 128) || decide ((191 : Int) < (bn l 3 : Int))) = false := by simp; omega
                  simp only [e6, Bool.false_eq_true, if_false, if_neg n6, join4 (Nat.mod_lt _ (by decide : 8 > 0)) (Nat.mod_lt _ (by decide : 64 > 0)) (Nat.mod_lt _ (by decide : 64 > 0)) (Nat.mod_lt _ (by decide : 64 > 0))]; rfl
end Go.Cen
