/- slices.Reverse at texts, plainly. -/
import Derived.Test.YthdoklobbcedcabPx
import Derived.Test.YthdoklobbcedcabCenPl
set_option linter.unusedVariables false
set_option linter.unusedSimpArgs false
namespace Go.Cen
def revI (l : List ByteArray) (i : Nat) : List ByteArray := (List.range l.length).map fun t => if t < i ∨ l.length ≤ t + i then gt l ((l.length - 1 - t : Nat) : Int) else gt l (t : Int)
theorem revI_len (l : List ByteArray) (i : Nat) : (revI l i).length = l.length := by simp [revI]
theorem revI_get (l : List ByteArray) (i t : Nat) (h : t < l.length) : (revI l i)[t]? = some (if t < i ∨ l.length ≤ t + i then gt l ((l.length - 1 - t : Nat) : Int) else gt l (t : Int)) := by
  simp [revI, h]
theorem revI_gt (l : List ByteArray) (i t : Nat) (h : t < l.length) : gt (revI l i) (t : Int) = if t < i ∨ l.length ≤ t + i then gt l ((l.length - 1 - t : Nat) : Int) else gt l (t : Int) := by
  rw [gt_nat _ t (by rw [revI_len]; exact h)]
  have := revI_get l i t h
  rw [List.getElem?_eq_getElem (by rw [revI_len]; exact h)] at this
  exact Option.some.inj this
theorem revI_zero (l : List ByteArray) : revI l 0 = l := by
  apply List.ext_getElem?
  intro t
  by_cases h : t < l.length
  · rw [revI_get l 0 t h]
    have : ¬ (t < 0 ∨ l.length ≤ t + 0) := by omega
    rw [if_neg this, gt_nat l t h, List.getElem?_eq_getElem h]
  · rw [List.getElem?_eq_none (by rw [revI_len]; omega), List.getElem?_eq_none (by omega)]
theorem revI_end (l : List ByteArray) (i : Nat) (h : l.length ≤ 2 * i + 1) : revI l i = l.reverse := by
  apply List.ext_getElem?
  intro t
  by_cases ht : t < l.length
  · rw [revI_get l i t ht, List.getElem?_reverse ht]
    by_cases c : t < i ∨ l.length ≤ t + i
    · rw [if_pos c, gt_nat l (l.length - 1 - t) (by omega), List.getElem?_eq_getElem (by omega)]
    · rw [if_neg c, gt_nat l t ht, List.getElem?_eq_getElem (by omega)]
      congr 2
      omega
  · rw [List.getElem?_eq_none (by rw [revI_len]; omega), List.getElem?_eq_none (by simp; omega)]
theorem revI_step (l : List ByteArray) (i j : Nat) (hj : j + i + 1 = l.length) (h : i < j) : st (st (revI l i) (i : Int) (gt (revI l i) (j : Int))) (j : Int) (gt (revI l i) (i : Int)) = revI l (i + 1) := by
  have gi : gt (revI l i) (i : Int) = gt l (i : Int) := by rw [revI_gt l i i (by omega), if_neg (by omega)]
  have gj : gt (revI l i) (j : Int) = gt l (j : Int) := by rw [revI_gt l i j (by omega), if_neg (by omega)]
  rw [gi, gj]
  apply List.ext_getElem?
  intro t
  by_cases ht : t < l.length
  · rw [revI_get l (i + 1) t ht]
    simp only [st, Int.toNat_natCast, List.getElem?_set, List.length_set, revI_len]
    by_cases c1 : j = t
    · subst c1
      rw [if_pos rfl, if_pos (by omega), if_pos (by omega)]
      congr 2; omega
    · rw [if_neg c1]
      by_cases c2 : i = t
      · subst c2
        rw [if_pos rfl, if_pos (by omega), if_pos (by omega)]
        congr 2; omega
      · rw [if_neg c2, revI_get l i t ht]
        by_cases c3 : t < i ∨ l.length ≤ t + i
        · rw [if_pos c3, if_pos (by omega)]
        · rw [if_neg c3, if_neg (by omega)]
  · rw [List.getElem?_eq_none (by rw [st_length, st_length, revI_len]; omega), List.getElem?_eq_none (by rw [revI_len]; omega)]
theorem rev_l0 (l : List ByteArray) (hn : l.length ≤ 1000000) : ∀ (d i k : Nat), l.length ≤ 2 * i + 1 + d → i ≤ l.length → d < k → slices_Reverse_string.l0 k (revI l i) (i : Int) ((l.length : Int) - 1 - i) = some l.reverse := by
  intro d
  induction d with
  | zero =>
    intro i k h1 h2 h3
    obtain ⟨k, rfl⟩ : ∃ m, k = m + 1 := ⟨k - 1, by omega⟩
    have : decide ((i : Int) < (l.length : Int) - 1 - i) = false := by simp; omega
    simp only [slices_Reverse_string.l0, this, Bool.false_eq_true, if_false]
    rw [revI_end l i (by omega)]
  | succ d ih =>
    intro i k h1 h2 h3
    obtain ⟨k, rfl⟩ : ∃ m, k = m + 1 := ⟨k - 1, by omega⟩
    by_cases hlt : 2 * i + 1 < l.length
    · have hd : decide ((i : Int) < (l.length : Int) - 1 - i) = true := by simp; omega
      obtain ⟨j, hj⟩ : ∃ j, j + i + 1 = l.length := ⟨l.length - 1 - i, by omega⟩
      have ej : (l.length : Int) - 1 - i = (j : Int) := by omega
      have g1 : 0 ≤ (j : Int) ∧ (j : Int) < (((revI l i)).length : Int) := by rw [revI_len]; omega
      have g2 : 0 ≤ (i : Int) ∧ (i : Int) < (((revI l i)).length : Int) := by rw [revI_len]; omega
      have g3 : 0 ≤ (j : Int) ∧ (j : Int) < ((st (revI l i) (i : Int) (gt (revI l i) (j : Int))).length : Int) := by rw [st_length, revI_len]; omega
      have w1 : wi64 ((i : Int) + 1) = ((i + 1 : Nat) : Int) := by rw [wi64_id (by omega)]; omega
      have w2 : wi64 ((j : Int) - 1) = (l.length : Int) - 1 - ((i + 1 : Nat) : Int) := by rw [wi64_id (by omega)]; omega
      rw [ej] at hd ⊢
      simp only [slices_Reverse_string.l0, hd, if_true, g1, g2, g3, and_self, w1, w2]
      rw [revI_step l i j hj (by omega)]
      exact ih (i + 1) k (by omega) (by omega) (by omega)
    · have : decide ((i : Int) < (l.length : Int) - 1 - i) = false := by simp; omega
      simp only [slices_Reverse_string.l0, this, Bool.false_eq_true, if_false]
      rw [revI_end l i (by omega)]
theorem rev_eq (l : List ByteArray) (hn : l.length ≤ 1000000) : slices_Reverse_string l = some l.reverse := by
  have hF : FU = 4611686018427387904 := rfl
  have := rev_l0 l hn l.length 0 FU (by omega) (by omega) (by omega)
  rw [revI_zero] at this
  have e : (l.length : Int) - 1 - (0 : Nat) = wi64 ((l.length : Int) - 1) := by rw [wi64_id (by omega)]; omega
  rw [e] at this
  unfold slices_Reverse_string
  rw [show slices_Reverse_string.l0 FU l 0 (wi64 ((l.length : Int) - 1)) = _ from this]
  simp
end Go.Cen
