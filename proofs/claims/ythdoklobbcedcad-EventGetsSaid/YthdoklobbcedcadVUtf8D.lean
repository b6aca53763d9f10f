/- UTF-8: a rune's bytes, there and back. -/
import Derived.Test.YthdoklobbcedcadVUtf8C
set_option linter.unusedVariables false
set_option linter.unusedSimpArgs false
namespace Go.Cen
open Go.Lib (decodeN firstT accLo accHi slowN slow_eq)
/-! ### taken out of a list -/
theorem take1 {l : List Int} (h : isB l) (hn : 1 ≤ l.length) : l.take 1 = [(bn l 0 : Int)] := by
  match l, hn with
  | a :: r, _ => have := gt_bn h 0; simp only [List.take_succ_cons, List.take_zero]; rw [← this]; rfl
theorem take2 {l : List Int} (h : isB l) (hn : 2 ≤ l.length) : l.take 2 = [(bn l 0 : Int), (bn l 1 : Int)] := by
  match l, hn with
  | a :: b :: r, _ => have h0 := gt_bn h 0; have h1 := gt_bn h 1; simp only [List.take_succ_cons, List.take_zero]; rw [← h0, ← h1]; rfl
theorem take3 {l : List Int} (h : isB l) (hn : 3 ≤ l.length) : l.take 3 = [(bn l 0 : Int), (bn l 1 : Int), (bn l 2 : Int)] := by
  match l, hn with
  | a :: b :: c :: r, _ => have h0 := gt_bn h 0; have h1 := gt_bn h 1; have h2 := gt_bn h 2; simp only [List.take_succ_cons, List.take_zero]; rw [← h0, ← h1, ← h2]; rfl
theorem take4 {l : List Int} (h : isB l) (hn : 4 ≤ l.length) : l.take 4 = [(bn l 0 : Int), (bn l 1 : Int), (bn l 2 : Int), (bn l 3 : Int)] := by
  match l, hn with
  | a :: b :: c :: d :: r, _ => have h0 := gt_bn h 0; have h1 := gt_bn h 1; have h2 := gt_bn h 2; have h3 := gt_bn h 3; simp only [List.take_succ_cons, List.take_zero]; rw [← h0, ← h1, ← h2, ← h3]; rfl
/-- the classes, with what each byte is -/
theorem good_cases {l : List Int} (h : isB l) (hl : l ≠ []) (hb : ¬ bad l) :
    (bn l 0 < 128 ∧ dec l = (bn l 0, 1)) ∨
    (194 ≤ bn l 0 ∧ bn l 0 < 224 ∧ 2 ≤ l.length ∧ 128 ≤ bn l 1 ∧ bn l 1 ≤ 191 ∧ dec l = ((bn l 0 - 192) * 64 + bn l 1 - 128, 2)) ∨
    (224 ≤ bn l 0 ∧ bn l 0 < 240 ∧ 3 ≤ l.length ∧ 128 ≤ bn l 1 ∧ bn l 1 ≤ 191 ∧ 128 ≤ bn l 2 ∧ bn l 2 ≤ 191 ∧ 2048 ≤ ((bn l 0 - 224) * 64 + bn l 1 - 128) * 64 + bn l 2 - 128 ∧ (((bn l 0 - 224) * 64 + bn l 1 - 128) * 64 + bn l 2 - 128 < 55296 ∨ 57344 ≤ ((bn l 0 - 224) * 64 + bn l 1 - 128) * 64 + bn l 2 - 128) ∧ dec l = (((bn l 0 - 224) * 64 + bn l 1 - 128) * 64 + bn l 2 - 128, 3)) ∨
    (240 ≤ bn l 0 ∧ bn l 0 < 245 ∧ 4 ≤ l.length ∧ 128 ≤ bn l 1 ∧ bn l 1 ≤ 191 ∧ 128 ≤ bn l 2 ∧ bn l 2 ≤ 191 ∧ 128 ≤ bn l 3 ∧ bn l 3 ≤ 191 ∧ 65536 ≤ (((bn l 0 - 240) * 64 + bn l 1 - 128) * 64 + bn l 2 - 128) * 64 + bn l 3 - 128 ∧ (((bn l 0 - 240) * 64 + bn l 1 - 128) * 64 + bn l 2 - 128) * 64 + bn l 3 - 128 ≤ 1114111 ∧ dec l = ((((bn l 0 - 240) * 64 + bn l 1 - 128) * 64 + bn l 2 - 128) * 64 + bn l 3 - 128, 4)) := by
  have hlen := List.length_pos_iff.2 hl
  have b0 := bn_lt h 0; have b1 := bn_lt h 1; have b2 := bn_lt h 2; have b3 := bn_lt h 3
  unfold bad at hb
  by_cases c0 : bn l 0 < 128
  · exact .inl ⟨c0, dec_small c0⟩
  · by_cases c2 : 194 ≤ bn l 0 ∧ bn l 0 < 224
    · have e : dec l = _ := dN2 l.length (bn l 0) (bn l 1) (bn l 2) (bn l 3) hlen b1 c2
      by_cases d : l.length < 2 ∨ (bn l 1 < 128 ∨ 191 < bn l 1)
      · rw [if_pos d] at e; exact absurd e hb
      · rw [if_neg d] at e
        exact .inr (.inl ⟨c2.1, c2.2, by omega, by omega, by omega, e⟩)
    · by_cases c3 : 224 ≤ bn l 0 ∧ bn l 0 < 240
      · have e : dec l = _ := dN3 l.length (bn l 0) (bn l 1) (bn l 2) (bn l 3) hlen b1 b2 c3
        split at e
        · exact absurd e hb
        · exact .inr (.inr (.inl ⟨c3.1, c3.2, by omega, by omega, by omega, by omega, by omega, by omega, by omega, e⟩))
      · by_cases c4 : 240 ≤ bn l 0 ∧ bn l 0 < 245
        · have e : dec l = _ := dN4 l.length (bn l 0) (bn l 1) (bn l 2) (bn l 3) hlen b1 b2 b3 c4
          split at e
          · exact absurd e hb
          · exact .inr (.inr (.inr ⟨c4.1, c4.2, by omega, by omega, by omega, by omega, by omega, by omega, by omega, by omega, by omega, e⟩))
        · exact absurd (dNx l.length (bn l 0) (bn l 1) (bn l 2) (bn l 3) b0 b1 (by omega)) hb
end Go.Cen
