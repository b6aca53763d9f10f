/- NAME: the law that the program and the document agree. -/
import Derived.Test.YthdoklobbcedcadVTNameI
set_option linter.unusedVariables false
set_option linter.unusedSimpArgs false
namespace Go.Cen
theorem fidx_none {α : Type} (p : α → Bool) (xs : List α) (h : fidx p xs < 0) : xs.all (fun x => !p x) = true := by
  have h4 := fidx_any p xs
  have h5 : decide (fidx p xs ≥ 0) = false := by simp; omega
  rw [h5] at h4
  rw [List.all_eq_not_any_not]
  simp [← h4]
/-! ### the reference's Valid -/
def oddR (r : Int) : Bool := decide (r < 32) || ((r == 47) || ((decide (127 ≤ r) && decide (r ≤ 159)) || ((r == 65533) || decide (r ≥ 1114112))))
theorem odd_rune {l : List Int} (h : isB l) (hl : l ≠ []) : oddR (runeI l) = oddN ((dec l).1 : Int) := by
  unfold runeI
  by_cases hb : bad l
  · rw [if_pos hb, bad_w hb]
    have b0 := bn_lt h 0
    have : decide ((1114112 + (bn l 0 : Int)) ≥ 1114112) = true := by simp; omega
    unfold oddR oddN
    rw [this]
    simp
  · rw [if_neg hb]
    have hle : (dec l).1 ≤ 1114111 := by
      rcases dec_cases l hl h with ⟨a, e⟩ | ⟨_, e⟩ | ⟨_, _, _, a, _⟩
      · rw [e]; simp only; omega
      · exact absurd e hb
      · exact a
    have : decide (((dec l).1 : Int) ≥ 1114112) = false := by simp; omega
    unfold oddR oddN
    rw [this, Bool.or_false]
theorem segs_all : ∀ l, isB l → segsOk l = (runesL l).all (fun r => !oddR r) := by
  refine seg_ind (by rw [segsOk_nil, runesL_nil]; rfl) (fun l hl hB ih => ?_)
  rw [segsOk_cons hl, runesL_cons hl, List.all_cons, odd_rune hB hl, ih]
theorem first_rune {l : List Int} (h : isB l) (hl : l ≠ []) : runeI l = 32 ↔ bn l 0 = 32 := by
  have b0 := bn_lt h 0
  unfold runeI
  by_cases hb : bad l
  · rw [if_pos hb]
    constructor
    · intro h; omega
    · intro h0
      have := dec_small (l := l) (by omega)
      rw [bad_w hb, h0] at this; simp at this
  · rw [if_neg hb]
    rcases dec_cases l hl h with ⟨a, e⟩ | ⟨_, e⟩ | ⟨_, a, b, _⟩
    · rw [e]; simp only; omega
    · exact absurd e hb
    · omega
theorem last_rune : ∀ l, isB l → ((runesL l).getLast? = some 32 ↔ l.getLast? = some 32) := by
  refine seg_ind (by rw [runesL_nil]) (fun l hl hB ih => ?_)
  have hw := dec_w l hl
  rw [runesL_cons hl]
  by_cases hd : l.drop (dec l).2 = []
  · have hall : l.take (dec l).2 = l := List.take_of_length_le (List.drop_eq_nil_iff.1 hd)
    rw [hd, runesL_nil]
    simp only [List.getLast?_singleton, Option.some.injEq]
    by_cases h2 : 2 ≤ (dec l).2
    · have hnb : ¬ bad l := fun e => by rw [bad_w e] at h2; simp at h2
      have hh := take_high hB hl hnb h2
      rw [hall] at hh
      rw [first_rune hB hl]
      constructor
      · intro e
        have := hh l[0] (List.getElem_mem _)
        have e2 := gt_bn hB 0
        rw [show ((0 : Nat) : Int) = 0 from rfl] at e2
        have e3 := gt_nat l 0 (by omega)
        rw [show ((0 : Nat) : Int) = 0 from rfl] at e3
        omega
      · intro e
        have := hh 32 (List.mem_of_getLast? e)
        omega
    · have e2 : (dec l).2 = 1 := by omega
      have hl1 : l = [(bn l 0 : Int)] := by rw [e2, take1 hB (by omega)] at hall; exact hall.symm
      rw [first_rune hB hl]
      constructor
      · intro e
        rw [hl1, e]; rfl
      · intro e
        rw [hl1] at e
        simp only [List.getLast?_singleton, Option.some.injEq] at e
        omega
  · have hr : runesL (l.drop (dec l).2) ≠ [] := by rw [runesL_cons hd]; simp
    have e1 : (runeI l :: runesL (l.drop (dec l).2)).getLast? = (runesL (l.drop (dec l).2)).getLast? := by
      obtain ⟨a, r, e⟩ := List.exists_cons_of_ne_nil hr
      rw [e, List.getLast?_cons_cons]
    have e2 : l.getLast? = (l.drop (dec l).2).getLast? := by
      conv => lhs; rw [← List.take_append_drop (dec l).2 l]
      rw [List.getLast?_append]
      cases hq : (l.drop (dec l).2).getLast? with
      | none => exact absurd (List.getLast?_eq_none_iff.1 hq) hd
      | some v => rfl
    rw [e1, e2]; exact ih
theorem last_bn {l : List Int} (h : isB l) (hl : l ≠ []) : l.getLast? = some 32 ↔ bn l (l.length - 1) = 32 := by
  have hlen := List.length_pos_iff.2 hl
  rw [List.getLast?_eq_getElem?, List.getElem?_eq_getElem (by omega)]
  have := gt_bn h (l.length - 1)
  rw [gt_nat l (l.length - 1) (by omega)] at this
  simp only [Option.some.injEq]
  omega
theorem valid_step (r : Int) : (if decide (r < 32) = true then some true else (if (r == 47) = true then some true else (if decide (r ≥ 127) = true then (if decide (r ≤ 159) = true then some true else (if (r == 65533) = true then some true else some (decide (r ≥ 1114112)))) else (if (r == 65533) = true then some true else some (decide (r ≥ 1114112)))))) = some (oddR r) := by
  unfold oddR
  by_cases h3 : r ≥ 127
  · have h3' : (127 : Int) ≤ r := h3
    simp only [orS, h3, h3', decide_true, if_true, Bool.true_and]
  · have h3' : ¬ (127 : Int) ≤ r := h3
    simp only [orS, h3, h3', decide_false, Bool.false_eq_true, if_false, Bool.false_and, Bool.false_or]
theorem ref03_Valid_str {l : List Int} (hB : isB l) (hn : l.length ≤ 100000) : ref03_Valid (strOfNums l) = some (validN l) := by
  unfold ref03_Valid validN
  rw [ref03_Runes_str hB (by omega)]
  simp only [Option.bind_some]
  obtain ⟨R, hR⟩ : ∃ R, R = runesL l := ⟨_, rfl⟩
  have hRl : R.length = cnt l := by rw [hR]; rfl
  have hcl := cnt_le l hB
  rw [← hR, hRl]
  by_cases h1 : 0 < cnt l
  · have hne : l ≠ [] := by intro e; rw [e, cnt_nil] at h1; omega
    have hRne : R ≠ [] := by intro e; rw [e] at hRl; simp at hRl; omega
    have d1 : decide ((cnt l : Int) < 1) = false := by simp; omega
    by_cases h2 : cnt l ≤ 24
    · have d2 : decide ((cnt l : Int) > 24) = false := by simp; omega
      have hw : wi64 ((cnt l : Int) - 1) = ((cnt l - 1 : Nat) : Int) := by rw [wi64_id (by omega)]; omega
      have g0 : gt R 0 = runeI l := by rw [hR, runesL_cons hne]; rfl
      have gl : gt R ((cnt l - 1 : Nat) : Int) = 32 ↔ bn l (l.length - 1) = 32 := by
        have hi : R.length - 1 = cnt l - 1 := by omega
        have hlt : cnt l - 1 < R.length := by omega
        rw [gt_nat R (cnt l - 1) hlt, ← last_bn hB hne, ← last_rune l hB, ← hR, List.getLast?_eq_getElem?]
        simp only [hi, List.getElem?_eq_getElem hlt, Option.some.injEq]
      have f0 := first_rune hB hne
      simp only [d1, d2, Bool.false_eq_true, if_false, g0, hw, h1, h2, decide_true, Bool.true_and]
      have gA : (0 : Int) ≤ 0 ∧ (0 : Int) < (cnt l : Int) := by omega
      have gB : (0 : Int) ≤ ((cnt l - 1 : Nat) : Int) ∧ ((cnt l - 1 : Nat) : Int) < (cnt l : Int) := by omega
      rw [if_pos gA]
      simp only [if_pos gB, orS, Option.bind_some]
      have hloop := loop_idx R (by omega) oddR (fun _ => false) (fun k i => ref03_Valid.l0 R k i)
        (fun k hd => by simp only [ref03_Valid.l0, hd]; rfl)
        (fun k i hi hd hg hw => by simp only [decide_true, if_true, and_self, Option.bind_some, ref03_Valid.l0, hd, hg, hw, valid_step])
      have hseg := segs_all l hB
      rw [← hR] at hseg
      by_cases c : bn l 0 = 32 ∨ bn l (l.length - 1) = 32
      · have e : ((runeI l == 32) || (gt R ((cnt l - 1 : Nat) : Int) == 32)) = true := by
          simp only [Bool.or_eq_true, beq_iff_eq, f0, gl]; exact c
        have e2 : ((bn l 0 != 32) && (bn l (l.length - 1) != 32)) = false := by
          rcases c with c | c <;> simp [c]
        simp only [e, if_true, e2, Bool.and_false]
      · have e : ((runeI l == 32) || (gt R ((cnt l - 1 : Nat) : Int) == 32)) = false := by
          rw [Bool.eq_false_iff]
          simp only [ne_eq, Bool.or_eq_true, beq_iff_eq, f0, gl]; exact c
        have e2 : ((bn l 0 != 32) && (bn l (l.length - 1) != 32)) = true := by
          simp only [Bool.and_eq_true, bne_iff_ne]
          exact ⟨fun h => c (.inl h), fun h => c (.inr h)⟩
        simp only [e, Bool.false_eq_true, if_false, e2, Bool.and_true, hloop]
        rw [hseg]
        by_cases hf : fidx oddR R < 0
        · rw [if_pos hf, fidx_none _ _ hf]; rfl
        · rw [if_neg hf]
          have h4 := fidx_any oddR R
          have h5 : decide (fidx oddR R ≥ 0) = true := by simp; omega
          rw [h5] at h4
          have h6 : R.all (fun r => !oddR r) = false := by
            rw [List.all_eq_not_any_not]
            simp [← h4]
          rw [h6]; rfl
    · have d2 : decide ((cnt l : Int) > 24) = true := by simp; omega
      simp [d1, d2, h2]
  · have d1 : decide ((cnt l : Int) < 1) = true := by simp; omega
    simp [d1, h1]
end Go.Cen
