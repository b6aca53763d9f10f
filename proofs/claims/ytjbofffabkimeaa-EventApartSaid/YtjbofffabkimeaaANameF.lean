/- NAME: what a name is; joining. -/
import Derived.Test.YtjbofffabkimeaaANameA
set_option linter.unusedVariables false
set_option linter.unusedSimpArgs false
namespace Go.Cen
/-- runes that no name has -/
def oddN (r : Int) : Bool := decide (r < 32) || ((r == 47) || ((decide (127 ≤ r) && decide (r ≤ 159)) || (r == 65533)))
theorem name_Valid_1_eq (r : Int) : name_Valid_1 r = some (oddN r) := by
  unfold name_Valid_1 oddN
  by_cases h1 : r < 32
  · simp [h1]
  · by_cases h2 : r = 47
    · simp [h2]
    · by_cases h3 : 127 ≤ r
      · by_cases h4 : r ≤ 159
        · simp [h1, h2, h3, h4]
        · simp [h1, h2, h3, h4]
      · simp [h1, h2, h3]
def segsOk (l : List Int) : Bool := if h : l = [] then true else !oddN ((dec l).1 : Int) && segsOk (l.drop (dec l).2)
termination_by l.length
decreasing_by exact drop_lt h
theorem segsOk_nil : segsOk [] = true := by rw [segsOk]; simp
theorem segsOk_cons {l : List Int} (h : l ≠ []) : segsOk l = (!oddN ((dec l).1 : Int) && segsOk (l.drop (dec l).2)) := by rw [segsOk]; simp [h]
theorem segsOk_good {l : List Int} (h : l ≠ []) (hs : segsOk l = true) : ¬ bad l ∧ oddN ((dec l).1 : Int) = false ∧ segsOk (l.drop (dec l).2) = true := by
  rw [segsOk_cons h, Bool.and_eq_true, Bool.not_eq_true'] at hs
  refine ⟨fun hb => ?_, hs.1, hs.2⟩
  have := hs.1
  rw [bad_w hb] at this
  simp [oddN] at this
theorem indexFunc_str {l : List Int} (hB : isB l) (hn : l.length ≤ 1000000) : ∃ v, strings_IndexFunc__name_Valid_1 (strOfNums l) = some v ∧ decide (v < 0) = segsOk l := by
  have hl := loopR l hB (by omega) (fun k i (_ : Unit) => (strings_indexFunc__name_Valid_1.l0 (strOfNums l) true k i).bind fun r => some (match r with | .inl v => decide (v < 0) | .inr _ => true)) (fun r _ => some (segsOk r)) (fun _ _ => True)
    (fun k s hs => by
      simp only [strings_indexFunc__name_Valid_1.l0, strOfNums_size, Nat.lt_irrefl, if_false, segsOk_nil, Option.bind_some])
    (fun k i s hi hne hB' hr hw hbr hbt hI ih => by
      have ih' := ih () trivial
      simp only [strings_indexFunc__name_Valid_1.l0, strOfNums_size, hi, if_true, hr, hw, name_Valid_1_eq, Option.bind_some]
      rw [segsOk_cons hne]
      cases ho : oddN ((dec (l.drop i)).1 : Int) with
      | true =>
        simp only [BEq.rfl, if_true, Option.bind_some, Bool.not_true, Bool.false_and]
        simp
      | false =>
        have : (false == true) = false := rfl
        simp only [this, Bool.false_eq_true, if_false, Bool.not_false, Bool.true_and]
        exact ih') () trivial
  unfold strings_IndexFunc__name_Valid_1 strings_indexFunc__name_Valid_1
  cases hq : strings_indexFunc__name_Valid_1.l0 (strOfNums l) true FU 0 with
  | none => rw [hq] at hl; cases hl
  | some r =>
    rw [hq] at hl
    simp only [Option.bind_some, Option.some.injEq] at hl
    cases r with
    | inl v => exact ⟨v, rfl, hl⟩
    | inr u => exact ⟨-1, rfl, by rw [← hl]; rfl⟩
def validN (l : List Int) : Bool := decide (0 < cnt l) && (decide (cnt l ≤ 24) && (segsOk l && ((bn l 0 != 32) && (bn l (l.length - 1) != 32))))
theorem name_Valid_str {l : List Int} (hB : isB l) (hn : l.length ≤ 100000) : name_Valid (strOfNums l) = some (validN l) := by
  unfold name_Valid validN
  rw [name_Count_str hB (by omega)]
  simp only [Option.bind_some]
  by_cases h1 : 0 < cnt l
  · have d1 : decide ((cnt l : Int) > 0) = true := by simp; omega
    have hne : l ≠ [] := by intro e; rw [e, cnt_nil] at h1; omega
    have hlen := List.length_pos_iff.2 hne
    simp only [d1, if_true, h1, decide_true, Bool.true_and]
    by_cases h2 : cnt l ≤ 24
    · have d2 : decide ((cnt l : Int) ≤ 24) = true := by simp; omega
      obtain ⟨v, hv1, hv2⟩ := indexFunc_str hB (by omega)
      simp only [d2, if_true, h2, decide_true, Bool.true_and, hv1, Option.bind_some, hv2]
      cases segsOk l with
      | false => rfl
      | true =>
        have hw : wi64 ((l.length : Int) - 1) = ((l.length - 1 : Nat) : Int) := by rw [wi64_id (by omega)]; omega
        have hb0 : bt (strOfNums l) 0 = (bn l 0 : Int) := bt_bn hB 0
        simp only [if_true, strOfNums_size, hb0, hw, bt_bn hB, Bool.true_and]
        rw [if_pos (by omega)]
        by_cases h3 : bn l 0 = 32
        · have : ((bn l 0 : Int) != 32) = false := by simp [h3]
          simp [this, h3]
        · have : ((bn l 0 : Int) != 32) = true := by simp; omega
          have h3' : (bn l 0 != 32) = true := by simpa using h3
          simp only [this, if_true, h3', Bool.true_and]
          rw [if_pos (by omega)]
          simp only [Option.bind_some]
          congr 1
          by_cases h4 : bn l (l.length - 1) = 32
          · simp [h4]
          · have a : ((bn l (l.length - 1) : Int) != 32) = true := by simp; omega
            have b : (bn l (l.length - 1) != 32) = true := by simpa using h4
            rw [a, b]
    · have d2 : decide ((cnt l : Int) ≤ 24) = false := by simp; omega
      simp [d2, h2]
  · have d1 : decide ((cnt l : Int) > 0) = false := by simp; omega
    simp [d1, h1]
theorem valid_segs {l : List Int} (h : validN l = true) : segsOk l = true := by
  simp only [validN, Bool.and_eq_true] at h
  exact h.2.2.1
end Go.Cen
