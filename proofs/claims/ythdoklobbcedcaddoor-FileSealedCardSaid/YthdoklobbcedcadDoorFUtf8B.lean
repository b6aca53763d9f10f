/- UTF-8: broken bytes, the reference's rune, the bytes of a rune. -/
import Derived.Test.YthdoklobbcedcadDoorFUtf8A
set_option linter.unusedVariables false
set_option linter.unusedSimpArgs false
namespace Go.Cen
open Go.Lib (decodeN firstT accLo accHi slowN slow_eq)
instance (l : List Int) : Decidable (bad l) := inferInstanceAs (Decidable (dec l = (65533, 1)))
theorem bad_w {l : List Int} (h : bad l) : dec l = (65533, 1) := h
theorem not_bad_65533 {l : List Int} (hl : l ≠ []) (h : isB l) (hb : ¬ bad l) : (dec l).1 = 65533 → (dec l).2 ≠ 1 := by
  intro h1 h2
  exact hb (Prod.ext h1 h2)
theorem broken_str {l : List Int} (h : isB l) {i : Nat} (hi : i < l.length) : name_broken (strOfNums l) (i : Int) (runeAt (strOfNums l) i) = some (decide (bad (l.drop i))) := by
  have hne : l.drop i ≠ [] := by intro e; have := List.drop_eq_nil_iff.1 e; omega
  have hB := isB_drop h i
  rw [runeAt_str h (by omega)]
  unfold name_broken
  by_cases h1 : (dec (l.drop i)).1 = 65533
  · have d1 : (((dec (l.drop i)).1 : Int) != 65533) = false := by simp [h1]
    simp only [d1, Bool.false_eq_true, if_false, strOfNums_size]
    rw [if_pos (by omega)]
    have hs : sx (strOfNums l) (i : Int) (l.length : Int) = strOfNums (l.drop i) := by rw [sx_str]; simp
    rw [hs, decodeRune_str hB hne]
    simp only [Option.bind_some]
    congr 1
    have hw := dec_w _ hne
    by_cases hb : bad (l.drop i)
    · have : (dec (l.drop i)).2 = 1 := by rw [bad_w hb]
      simp [hb, this]
    · have := not_bad_65533 hne hB hb h1
      have h2 : ¬ ((dec (l.drop i)).2 : Int) < 2 := by omega
      simp [hb, h2]
  · have d1 : (((dec (l.drop i)).1 : Int) != 65533) = true := by simp; omega
    have hb : ¬ bad (l.drop i) := fun e => h1 (by rw [bad_w e])
    simp [d1, hb]
/-! ### the reference's rune -/
end Go.Cen
