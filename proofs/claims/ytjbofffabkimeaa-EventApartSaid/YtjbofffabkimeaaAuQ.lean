/- BUNDLE: a name as it is shown. -/
import Derived.Test.YtjbofffabkimeaaATNameI
set_option linter.unusedVariables false
set_option linter.unusedSimpArgs false
set_option maxRecDepth 100000
namespace Go.Cen
theorem odd_off {r : Nat} (h : oddN (r : Int) = false) : 32 ≤ r ∧ r ≠ 127 ∧ r ≠ 65533 := by
  simp only [oddN, Bool.or_eq_false_iff, decide_eq_false_iff_not, Bool.and_eq_false_iff, beq_eq_false_iff_ne] at h
  omega
theorem quote_ok {l : List Int} (hB : isB l) (hn : l.length ≤ 1000000) (hs : segsOk l = true) : name_Quote (strOfNums l) = some (strOfNums (quoteL l)) := by
  have hL := LIM_val
  unfold name_Quote
  rw [writeByte_eq _ _ _ (by simp; omega)]
  simp only [Option.bind_some, List.nil_append]
  have hbl := body_len l hB
  have := loopR l hB (by omega) (fun k i (s : List Int) => name_Quote.l0 (strOfNums l) k i true s) (fun r s => some (true, s ++ body r)) (fun r s => s.length + 4 * r.length ≤ 4000100 ∧ segsOk r = true)
    (fun k s hs => by
      simp only [name_Quote.l0, strOfNums_size, Nat.lt_irrefl, if_false, body_nil, List.append_nil])
    (fun k i s hi hne hB' hr hw _ hbt hI ih => by
      have hlt := drop_lt hne
      have b0 := bn_lt hB' 0
      obtain ⟨x, hx⟩ : ∃ x, x = l.drop i := ⟨_, rfl⟩
      rw [← hx] at hne hB' hr hw hbt hI ih hlt b0 ⊢
      have hbody := body_cons hne
      obtain ⟨hI1, hI2⟩ := hI
      obtain ⟨hnb, ho, hI3⟩ := segsOk_good hne hI2
      obtain ⟨o1, o2, o3⟩ := odd_off ho
      have hbr : name_broken (strOfNums l) (i : Int) ((dec x).1 : Int) = some false := by
        have : ((((dec x).1 : Nat) : Int) != 65533) = true := by simp; omega
        simp only [name_broken, this, if_true]
      simp only [name_Quote.l0, strOfNums_size, hi, if_true, hr, hw, hbt, orS, Option.bind_some, hbr]
      unfold shown at hbody
      by_cases c1 : (dec x).1 = 34 ∨ (dec x).1 = 92
      · have d1 : ((((dec x).1 : Int) == 34) || (((dec x).1 : Int) == 92)) = true := by simp; omega
        rw [if_pos c1] at hbody
        have hv : (dec x).1 < 128 := by omega
        have e1 : encI (dec x).1 = [((dec x).1 : Int)] := by unfold encI; rw [if_pos hv]
        simp only [d1, if_true]
        rw [writeByte_eq _ _ _ (by omega)]
        simp only [Option.bind_some]
        rw [writeRune_eq _ _ _ (by omega) (by omega) (by simp; omega), e1]
        simp only [Option.bind_some]
        rw [ih _ ⟨by simp only [List.length_append, List.length_cons, List.length_nil]; omega, hI3⟩, hbody]
        simp
      · have d1 : ((((dec x).1 : Int) == 34) || (((dec x).1 : Int) == 92)) = false := by simp; omega
        have d2 : (((dec x).1 : Int) == 10) = false := by simp; omega
        have d3 : (decide (((dec x).1 : Int) < 32) || ((((dec x).1 : Int) == 127) || false)) = false := by
          have h1 : ¬ ((dec x).1 : Int) < 32 := by omega
          have h2 : ¬ ((dec x).1 : Int) = 127 := by omega
          simp [h1, h2]
        rw [if_neg c1, if_neg (by omega), if_neg (by intro h; rcases h with h | h | h; omega; omega; exact hnb h)] at hbody
        have hrange : (dec x).1 ≤ 1114111 ∧ ((dec x).1 < 55296 ∨ 57344 ≤ (dec x).1) := by
          rcases dec_cases x hne hB' with ⟨a, e⟩ | ⟨_, e⟩ | ⟨_, _, _, a, b⟩
          · rw [e]; simp only; omega
          · exact absurd e hnb
          · exact ⟨a, b⟩
        have hw4 := dec_w x hne
        simp only [d1, d2, d3, Bool.false_eq_true, if_false]
        rw [writeRune_eq _ _ _ hrange.1 hrange.2 (by omega), enc_dec hB' hne hnb]
        simp only [Option.bind_some]
        rw [ih _ ⟨by simp only [List.length_append, List.length_take]; omega, hI3⟩, hbody]
        simp) [34] ⟨by simp; omega, hs⟩
  rw [show name_Quote.l0 (strOfNums l) FU 0 true [34] = _ from this]
  simp only [Option.bind_some]
  rw [writeByte_eq _ _ _ (by simp; omega)]
  simp only [Option.bind_some, strings_Builder_String]
  rw [if_pos (show bytesOk ([34] ++ body l ++ [34]) = true from (bytesOk_iff _).2 (quoteL_isB hB))]
  rfl
end Go.Cen
