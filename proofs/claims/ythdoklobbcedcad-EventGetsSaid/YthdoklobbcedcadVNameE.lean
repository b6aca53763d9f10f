/- NAME: the runes of what is shown. -/
import Derived.Test.YthdoklobbcedcadVNameB
set_option linter.unusedVariables false
set_option linter.unusedSimpArgs false
namespace Go.Cen
/-! ### the reference's runes -/
theorem ref03_Runes_str {l : List Int} (hB : isB l) (hn : l.length ≤ 1000000) : ref03_Runes (strOfNums l) = some (runesL l) := by
  have hL := LIM_val
  unfold ref03_Runes
  have := loopR l hB (by omega) (fun k i (s : List Int) => ref03_Runes.l0 (strOfNums l) k s (i : Int)) (fun r s => some (s ++ runesL r)) (fun r s => s.length + r.length ≤ 1000000)
    (fun k s hs => by
      have hd : decide (((l.length : Nat) : Int) < (l.length : Int)) = false := by simp
      simp only [ref03_Runes.l0, strOfNums_size, hd, runesL_nil, List.append_nil]
      rfl)
    (fun k i s hi hne hB' hr hw hbr hbt hI ih => by
      have hlt := drop_lt hne
      have b0 := bn_lt hB' 0
      have hd : decide ((i : Int) < (l.length : Int)) = true := by simp; omega
      have hg : (0 : Int) ≤ (i : Int) ∧ (i : Int) < (l.length : Int) := ⟨by omega, by omega⟩
      have hs : sx (strOfNums l) (i : Int) (l.length : Int) = strOfNums (l.drop i) := drop_str l i (by omega)
      have hw4 := dec_w _ hne
      simp only [ref03_Runes.l0, strOfNums_size, hd, if_true, hs]
      rw [if_pos (by omega), ref03_Rune_dec hB' hne]
      simp only [Option.bind_some]
      have hstep : ∀ (v : Int) (w : Nat), v = runeI (l.drop i) → w = (dec (l.drop i)).2 →
          (if s.length + ([v] : List Int).length ≤ LIM then ref03_Runes.l0 (strOfNums l) k (s ++ [v]) (wi64 ((i : Int) + (w : Int))) else none) = some (s ++ runesL (l.drop i)) := by
        intro v w hv hw'
        have hwi : wi64 ((i : Int) + (w : Int)) = ((i + (dec (l.drop i)).2 : Nat) : Int) := by rw [hw', wi64_id (by omega)]; omega
        rw [if_pos (by simp; omega), hwi, ih (s ++ [v]) (by simp only [List.length_append, List.length_cons, List.length_nil]; omega), runesL_cons hne, hv]
        simp
      by_cases hb : bad (l.drop i)
      · rw [if_pos hb]
        have d : decide ((-1 : Int) < 0) = true := rfl
        have e1 : wi64 (bn (l.drop i) 0 : Int) = (bn (l.drop i) 0 : Int) := wi64_id (by omega)
        have e2 : wi64 (1114112 + (bn (l.drop i) 0 : Int)) = 1114112 + (bn (l.drop i) 0 : Int) := wi64_id (by omega)
        simp only [d, hg, and_self, if_true, hbt, e1, e2, Option.bind_some]
        exact hstep _ 1 (by unfold runeI; rw [if_pos hb]) (by rw [bad_w hb])
      · rw [if_neg hb]
        have d : decide (((dec (l.drop i)).1 : Int) < 0) = false := by simp
        simp only [d, Bool.false_eq_true, if_false, Option.bind_some]
        exact hstep _ _ (by unfold runeI; rw [if_neg hb]) rfl) [] (by simpa using hn)
  rw [show ref03_Runes.l0 (strOfNums l) FU [] 0 = _ from this]
  simp
end Go.Cen
