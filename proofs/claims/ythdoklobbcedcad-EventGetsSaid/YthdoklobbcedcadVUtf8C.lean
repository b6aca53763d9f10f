/- UTF-8: the reference's rune; the bytes of a rune. -/
import Derived.Test.YthdoklobbcedcadVUtf8B
set_option linter.unusedVariables false
set_option linter.unusedSimpArgs false
namespace Go.Cen
open Go.Lib (decodeN firstT accLo accHi slowN slow_eq)
theorem bt_bn {l : List Int} (h : isB l) (k : Nat) : bt (strOfNums l) (k : Int) = (bn l k : Int) := by rw [bt_str h]; exact gt_bn h k
theorem rstep {l : List Int} (h : isB l) (n : Nat) (k v i : Nat) (hv : v ≤ 1000000) (hi : i < n) (hil : i < l.length) (hn : n ≤ 4) :
    ref03_Rune.l0 (n : Int) (strOfNums l) (k + 1) (v : Int) (i : Int) = if bn l i < 128 ∨ 191 < bn l i then some (.inl (-1, 1)) else ref03_Rune.l0 (n : Int) (strOfNums l) k ((v * 64 + bn l i - 128 : Nat) : Int) ((i + 1 : Nat) : Int) := by
  have hb := bn_lt h i
  have d : decide ((i : Int) < (n : Int)) = true := by simp; omega
  have w1 : wi64 (bn l i : Int) = (bn l i : Int) := wi64_id (by omega)
  have w2 : wi64 ((v : Int) * 64) = (v : Int) * 64 := wi64_id (by omega)
  have w3 : wi64 ((v : Int) * 64 + (bn l i : Int)) = (v : Int) * 64 + (bn l i : Int) := wi64_id (by omega)
  have w4 : wi64 ((v : Int) * 64 + (bn l i : Int) - 128) = (v : Int) * 64 + (bn l i : Int) - 128 := wi64_id (by omega)
  have w5 : wi64 ((i : Int) + 1) = ((i + 1 : Nat) : Int) := by rw [wi64_id (by omega)]; omega
  simp only [ref03_Rune.l0, d, if_true, strOfNums_size]
  rw [if_pos (by omega), bt_bn h]
  simp only [w1, w2, w3, w4, w5, orS, Option.bind_some]
  by_cases c : bn l i < 128 ∨ 191 < bn l i
  · have e : (decide ((bn l i : Int) < 128) || decide ((bn l i : Int) > 191)) = true := by simp; omega
    rw [if_pos c]; simp only [e, if_true]
  · have e : (decide ((bn l i : Int) < 128) || decide ((bn l i : Int) > 191)) = false := by simp; omega
    rw [if_neg c]; simp only [e, Bool.false_eq_true, if_false]
    have : (v : Int) * 64 + (bn l i : Int) - 128 = ((v * 64 + bn l i - 128 : Nat) : Int) := by omega
    rw [this]
theorem rend (l : List Int) (n k v : Nat) : ref03_Rune.l0 (n : Int) (strOfNums l) (k + 1) (v : Int) (n : Int) = some (.inr (v : Int)) := by
  have d : decide ((n : Int) < (n : Int)) = false := by simp
  simp only [ref03_Rune.l0, d]
  rfl
set_option maxRecDepth 10000 in
theorem ref03_Rune_str {l : List Int} (h : isB l) (hl : l ≠ []) : ref03_Rune (strOfNums l) = some (rr l.length (bn l 0) (bn l 1) (bn l 2) (bn l 3)) := by
  have hlen := List.length_pos_iff.2 hl
  have b0 := bn_lt h 0; have b1 := bn_lt h 1; have b2 := bn_lt h 2; have b3 := bn_lt h 3
  have hbt0 : bt (strOfNums l) 0 = (bn l 0 : Int) := bt_bn h 0
  have w0 : wi64 (bn l 0 : Int) = (bn l 0 : Int) := wi64_id (by omega)
  obtain ⟨m, hm, _⟩ := FU_succ 4 (by omega)
  unfold ref03_Rune rr
  rw [strOfNums_size, if_pos (by omega), hbt0, w0]
  by_cases c0 : bn l 0 < 128
  · have d : decide ((bn l 0 : Int) < 128) = true := by simp; omega
    rw [if_pos c0]; simp only [d, if_true]
  · have d : decide ((bn l 0 : Int) < 128) = false := by simp; omega
    rw [if_neg c0]
    simp only [d, Bool.false_eq_true, if_false, andS, Option.bind_some]
    by_cases c2 : 194 ≤ bn l 0 ∧ bn l 0 < 224
    · have e : (decide ((bn l 0 : Int) ≥ 194) && decide ((bn l 0 : Int) < 224)) = true := by simp; omega
      have z2 : ((2 : Int) == 0) = false := rfl
      have w : wi64 ((bn l 0 : Int) - 192) = ((bn l 0 - 192 : Nat) : Int) := by rw [wi64_id (by omega)]; omega
      rw [if_pos c2]
      simp only [e, if_true, z2, Option.bind_some, Bool.false_eq_true, if_false, w, hm]
      by_cases n1 : l.length < 2
      · have f : decide ((l.length : Int) < 2) = true := by simp; omega
        simp only [f, if_true, if_pos n1]
      · have f : decide ((l.length : Int) < 2) = false := by simp; omega
        simp only [f, Bool.false_eq_true, if_false, if_neg n1]
        rw [show ref03_Rune.l0 2 (strOfNums l) (m + 4) ((bn l 0 - 192 : Nat) : Int) 1 = _ from rstep h 2 (m + 3) (bn l 0 - 192) 1 (by omega) (by decide) (by omega) (by decide)]
        by_cases n2 : bn l 1 < 128 ∨ 191 < bn l 1
        · rw [if_pos n2, if_pos n2]; rfl
        · rw [if_neg n2, if_neg n2]
          rw [show ref03_Rune.l0 ((2 : Nat) : Int) (strOfNums l) (m + 3) (((bn l 0 - 192) * 64 + bn l 1 - 128 : Nat) : Int) ((1 + 1 : Nat) : Int) = _ from rend l 2 (m + 2) _]
          obtain ⟨v, hv⟩ : ∃ v, v = (bn l 0 - 192) * 64 + bn l 1 - 128 := ⟨_, rfl⟩
          rw [← hv]
          have q1 : decide ((v : Int) < 128) = false := by simp; omega
          have q2 : decide ((v : Int) > 1114111) = false := by simp; omega
          have q3 : decide ((v : Int) ≥ 55296) = false := by simp; omega
          simp only [Option.bind_some, q1, q2, q3, Bool.false_eq_true, if_false]
          rfl
    · have e : (decide ((bn l 0 : Int) ≥ 194) && decide ((bn l 0 : Int) < 224)) = false := by simp; omega
      rw [if_neg c2]
      simp only [e, Bool.false_eq_true, if_false]
      by_cases c3 : 224 ≤ bn l 0 ∧ bn l 0 < 240
      · have e : (decide ((bn l 0 : Int) ≥ 224) && decide ((bn l 0 : Int) < 240)) = true := by simp; omega
        have z2 : ((3 : Int) == 0) = false := rfl
        have w : wi64 ((bn l 0 : Int) - 224) = ((bn l 0 - 224 : Nat) : Int) := by rw [wi64_id (by omega)]; omega
        rw [if_pos c3]
        simp only [e, if_true, z2, Option.bind_some, Bool.false_eq_true, if_false, w, hm]
        by_cases n1 : l.length < 3
        · have f : decide ((l.length : Int) < 3) = true := by simp; omega
          simp only [f, if_true, if_pos n1]
        · have f : decide ((l.length : Int) < 3) = false := by simp; omega
          simp only [f, Bool.false_eq_true, if_false, if_neg n1]
          rw [show ref03_Rune.l0 3 (strOfNums l) (m + 4) ((bn l 0 - 224 : Nat) : Int) 1 = _ from rstep h 3 (m + 3) (bn l 0 - 224) 1 (by omega) (by decide) (by omega) (by decide)]
          by_cases n2 : bn l 1 < 128 ∨ 191 < bn l 1
          · rw [if_pos n2, if_pos n2]; rfl
          · rw [if_neg n2, if_neg n2, rstep h 3 (m + 2) _ (1 + 1) (by omega) (by decide) (by omega) (by decide)]
            by_cases n3 : bn l 2 < 128 ∨ 191 < bn l 2
            · rw [if_pos n3, if_pos n3]; rfl
            · rw [if_neg n3, if_neg n3]
              rw [show ref03_Rune.l0 ((3 : Nat) : Int) (strOfNums l) (m + 2) ((((bn l 0 - 224) * 64 + bn l 1 - 128) * 64 + bn l (1 + 1) - 128 : Nat) : Int) ((1 + 1 + 1 : Nat) : Int) = _ from rend l 3 (m + 1) _]
              obtain ⟨v, hv⟩ : ∃ v, v = ((bn l 0 - 224) * 64 + bn l 1 - 128) * 64 + bn l 2 - 128 := ⟨_, rfl⟩
              rw [show ((bn l 0 - 224) * 64 + bn l 1 - 128) * 64 + bn l (1 + 1) - 128 = v from hv.symm]
              have q2 : decide ((v : Int) > 1114111) = false := by simp; omega
              simp only [Option.bind_some, orS, q2, Bool.false_or, Bool.false_eq_true, if_false]
              by_cases n4 : v < 2048 ∨ (55296 ≤ v ∧ v ≤ 57343)
              · have q : (decide ((v : Int) < 2048) || (decide ((v : Int) ≥ 55296) && decide ((v : Int) ≤ 57343))) = true := by simp; omega
                rw [if_pos n4]; simp only [q, if_true]
              · have q : (decide ((v : Int) < 2048) || (decide ((v : Int) ≥ 55296) && decide ((v : Int) ≤ 57343))) = false := by simp; omega
                rw [if_neg n4]; simp only [q, Bool.false_eq_true, if_false]
      · have e : (decide ((bn l 0 : Int) ≥ 224) && decide ((bn l 0 : Int) < 240)) = false := by simp; omega
        rw [if_neg c3]
        simp only [e, Bool.false_eq_true, if_false]
        by_cases c4 : 240 ≤ bn l 0 ∧ bn l 0 < 245
        · have e : (decide ((bn l 0 : Int) ≥ 240) && decide ((bn l 0 : Int) < 245)) = true := by simp; omega
          have z2 : ((4 : Int) == 0) = false := rfl
          have w : wi64 ((bn l 0 : Int) - 240) = ((bn l 0 - 240 : Nat) : Int) := by rw [wi64_id (by omega)]; omega
          rw [if_pos c4]
          simp only [e, if_true, z2, Option.bind_some, Bool.false_eq_true, if_false, w, hm]
          by_cases n1 : l.length < 4
          · have f : decide ((l.length : Int) < 4) = true := by simp; omega
            simp only [f, if_true, if_pos n1]
          · have f : decide ((l.length : Int) < 4) = false := by simp; omega
            simp only [f, Bool.false_eq_true, if_false, if_neg n1]
            rw [show ref03_Rune.l0 4 (strOfNums l) (m + 4) ((bn l 0 - 240 : Nat) : Int) 1 = _ from rstep h 4 (m + 3) (bn l 0 - 240) 1 (by omega) (by decide) (by omega) (by decide)]
            by_cases n2 : bn l 1 < 128 ∨ 191 < bn l 1
            · rw [if_pos n2, if_pos n2]; rfl
            · rw [if_neg n2, if_neg n2, rstep h 4 (m + 2) _ (1 + 1) (by omega) (by decide) (by omega) (by decide)]
              by_cases n3 : bn l 2 < 128 ∨ 191 < bn l 2
              · rw [if_pos n3, if_pos n3]; rfl
              · rw [if_neg n3, if_neg n3, rstep h 4 (m + 1) _ (1 + 1 + 1) (by have b2' : bn l (1 + 1) < 256 := b2; omega) (by decide) (by omega) (by decide)]
                by_cases n5 : bn l 3 < 128 ∨ 191 < bn l 3
                · rw [if_pos n5, if_pos n5]; rfl
                · rw [if_neg n5, if_neg n5]
                  rw [show ref03_Rune.l0 ((4 : Nat) : Int) (strOfNums l) (m + 1) (((((bn l 0 - 240) * 64 + bn l 1 - 128) * 64 + bn l (1 + 1) - 128) * 64 + bn l (1 + 1 + 1) - 128 : Nat) : Int) ((1 + 1 + 1 + 1 : Nat) : Int) = _ from rend l 4 m _]
                  obtain ⟨v, hv⟩ : ∃ v, v = (((bn l 0 - 240) * 64 + bn l 1 - 128) * 64 + bn l 2 - 128) * 64 + bn l 3 - 128 := ⟨_, rfl⟩
                  rw [show (((bn l 0 - 240) * 64 + bn l 1 - 128) * 64 + bn l (1 + 1) - 128) * 64 + bn l (1 + 1 + 1) - 128 = v from hv.symm]
                  simp only [Option.bind_some, orS]
                  by_cases n4 : v < 65536 ∨ 1114111 < v
                  · have q : (decide ((v : Int) < 65536) || (decide ((v : Int) > 1114111) || (decide ((v : Int) ≥ 55296) && decide ((v : Int) ≤ 57343)))) = true := by simp; omega
                    rw [if_pos n4]; simp only [q, if_true]
                  · have q : (decide ((v : Int) < 65536) || (decide ((v : Int) > 1114111) || (decide ((v : Int) ≥ 55296) && decide ((v : Int) ≤ 57343)))) = false := by simp; omega
                    rw [if_neg n4]; simp only [q, Bool.false_eq_true, if_false]
        · have e : (decide ((bn l 0 : Int) ≥ 240) && decide ((bn l 0 : Int) < 245)) = false := by simp; omega
          rw [if_neg c4]
          simp only [e, Bool.false_eq_true, if_false]
          rfl
theorem ref03_Rune_dec {l : List Int} (h : isB l) (hl : l ≠ []) : ref03_Rune (strOfNums l) = some (if bad l then (-1, 1) else (((dec l).1 : Int), ((dec l).2 : Int))) := by
  have hlen := List.length_pos_iff.2 hl
  rw [ref03_Rune_str h hl, rr_dec _ _ _ _ _ hlen (bn_lt h 0) (bn_lt h 1) (bn_lt h 2) (bn_lt h 3)]
  rfl
end Go.Cen
