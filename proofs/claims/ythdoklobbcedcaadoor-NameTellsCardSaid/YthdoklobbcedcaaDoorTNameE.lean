/- NAME: the runes of what is shown. -/
import Derived.Test.YthdoklobbcedcaaDoorTNameD
set_option linter.unusedVariables false
set_option linter.unusedSimpArgs false
namespace Go.Cen
theorem dec_ascii {x : Int} (hx : 0 ≤ x ∧ x < 128) (t : List Int) : dec (x :: t) = (x.toNat, 1) := by
  have h0 : bn (x :: t) 0 = x.toNat := rfl
  rw [dec_small (by rw [h0]; omega), h0]
theorem runes_ascii : ∀ (xs t : List Int), (∀ x ∈ xs, 0 ≤ x ∧ x < 128) → runesL (xs ++ t) = xs ++ runesL t
  | [], t, _ => rfl
  | x :: xs, t, h => by
    have hx := h x (by simp)
    have hd := dec_ascii hx (xs ++ t)
    have hr : runeI (x :: (xs ++ t)) = x := by
      unfold runeI
      have hb : ¬ bad (x :: (xs ++ t)) := by
        intro e; rw [bad_w e] at hd
        simp only [Prod.mk.injEq] at hd; omega
      rw [if_neg hb, hd]; simp only; omega
    rw [List.cons_append, runesL_cons (by simp), hd, hr]
    simp only [List.drop_succ_cons, List.drop_zero]
    rw [runes_ascii xs t (fun y hy => h y (by simp [hy]))]
    rfl
theorem runes_take {l : List Int} (h : isB l) (hl : l ≠ []) (hb : ¬ bad l) (t : List Int) (ht : isB t) : runesL (l.take (dec l).2 ++ t) = ((dec l).1 : Int) :: runesL t := by
  have hd := dec_local h hl hb t ht (dec l).2 (Nat.le_refl _)
  have hw := dec_w l hl
  have hne : l.take (dec l).2 ++ t ≠ [] := by
    intro e
    have := congrArg List.length e
    rw [List.length_append, List.length_take] at this
    simp only [List.length_nil] at this; omega
  have hlen : (l.take (dec l).2).length = (dec l).2 := by rw [List.length_take]; omega
  have hr : runeI (l.take (dec l).2 ++ t) = ((dec l).1 : Int) := by
    unfold runeI
    have hb2 : ¬ bad (l.take (dec l).2 ++ t) := fun e => hb (by unfold bad; rw [← hd]; exact e)
    rw [if_neg hb2, hd]
  rw [runesL_cons hne, hr, hd, List.drop_left' hlen]
theorem hexd_r : ∀ k < 16, 48 ≤ hexd k ∧ hexd k < 128 := by decide +kernel
/-- of what is shown each rune is a plain one -/
theorem shown_runes {l : List Int} (h : isB l) (hl : l ≠ []) (t : List Int) (ht : isB t) : ∃ rs, runesL (shown l ++ t) = rs ++ runesL t ∧ ∀ r ∈ rs, 32 ≤ r ∧ r < 1114112 := by
  have b0 := bn_lt h 0
  unfold shown
  by_cases c1 : (dec l).1 = 34 ∨ (dec l).1 = 92
  · rw [if_pos c1]
    refine ⟨_, runes_ascii _ t ?_, ?_⟩ <;>
    · intro x hx
      simp only [List.mem_cons, List.not_mem_nil, or_false] at hx
      rcases hx with rfl | rfl <;> omega
  · rw [if_neg c1]
    by_cases c2 : (dec l).1 = 10
    · rw [if_pos c2]
      refine ⟨_, runes_ascii _ t ?_, ?_⟩ <;>
      · intro x hx
        simp only [List.mem_cons, List.not_mem_nil, or_false] at hx
        rcases hx with rfl | rfl <;> omega
    · rw [if_neg c2]
      by_cases c3 : (dec l).1 < 32 ∨ (dec l).1 = 127 ∨ bad l
      · rw [if_pos c3]
        have h1 := hexd_r (bn l 0 / 16) (by omega)
        have h2 := hexd_r (bn l 0 % 16) (by omega)
        refine ⟨_, runes_ascii _ t ?_, ?_⟩ <;>
        · intro x hx
          simp only [List.mem_cons, List.not_mem_nil, or_false] at hx
          rcases hx with rfl | rfl | rfl | rfl <;> omega
      · rw [if_neg c3]
        have hnb : ¬ bad l := fun h => c3 (.inr (.inr h))
        refine ⟨[((dec l).1 : Int)], by rw [runes_take h hl hnb t ht]; rfl, ?_⟩
        intro r hr
        simp only [List.mem_cons, List.not_mem_nil, or_false] at hr
        subst hr
        rcases dec_cases l hl h with ⟨a, e⟩ | ⟨_, e⟩ | ⟨_, a, _, b, _⟩
        · rw [e] at c3 ⊢; simp only at c3 ⊢; omega
        · exact absurd e hnb
        · omega
theorem body_runes (t : List Int) (ht : isB t) (hok : ∀ r ∈ runesL t, 32 ≤ r ∧ r < 1114112) : ∀ l, isB l → ∀ r ∈ runesL (body l ++ t), 32 ≤ r ∧ r < 1114112 := by
  refine seg_ind (by rw [body_nil]; exact hok) (fun l hl hB ih => ?_)
  rw [body_cons hl, List.append_assoc]
  obtain ⟨rs, e, h⟩ := shown_runes hB hl (body (l.drop (dec l).2) ++ t) (isB_app (body_isB _ (isB_drop hB _)) ht)
  rw [e]
  intro r hr
  rcases List.mem_append.1 hr with hr | hr
  · exact h r hr
  · exact ih r hr
theorem quote_runes {l : List Int} (h : isB l) : ∀ r ∈ runesL (quoteL l), 32 ≤ r ∧ r < 1114112 := by
  have h34 : runesL [34] = [34] := by
    have := runes_ascii [34] [] (by intro x hx; simp at hx; omega)
    rwa [List.append_nil, runesL_nil, List.append_nil] at this
  have e : runesL (quoteL l) = [34] ++ runesL (body l ++ [34]) := by
    show runesL (([34] ++ body l) ++ [34]) = _
    rw [List.append_assoc]
    exact runes_ascii [34] _ (by intro x hx; simp at hx; omega)
  rw [e]
  intro r hr
  rcases List.mem_append.1 hr with hr | hr
  · simp at hr; omega
  · exact body_runes [34] isB_34 (by rw [h34]; intro r hr; simp at hr; omega) l h r hr
/-! ### the reference's runes -/
theorem ref03_Runes_str {l : List Int} (hB : isB l) (hn : l.length ≤ 1000000) : ref03_Runes (strOfNums l) = some (runesL l) := by
  have hL := LIM_val
  unfold ref03_Runes
  have := loopR l hB (by omega) (fun k i (s : List Int) => ref03_Runes.l0 (strOfNums l) k s (i : Int)) (fun r s => some (s ++ runesL r)) (fun r s => s.length + r.length ≤ 1000000)
    (fun k s hs => by
      have hd : decide (((l.length : Nat) : Int) < (l.length : Int)) = false := by simp
      simp only [ref03_Runes.l0, strOfNums_size, hd, runesL_nil, List.append_nil]
      rfl)
    (fun k i s hi hne hB' hr hw hbr hbt hI ih => by
      have hlt := drop_lt hne
      have b0 := bn_lt hB' 0
      have hd : decide ((i : Int) < (l.length : Int)) = true := by simp; omega
      have hg : (0 : Int) ≤ (i : Int) ∧ (i : Int) < (l.length : Int) := ⟨by omega, by omega⟩
      have hs : sx (strOfNums l) (i : Int) (l.length : Int) = strOfNums (l.drop i) := drop_str l i (by omega)
      have hw4 := dec_w _ hne
      simp only [ref03_Runes.l0, strOfNums_size, hd, if_true, hs]
      rw [if_pos (by omega), ref03_Rune_dec hB' hne]
      simp only [Option.bind_some]
      have hstep : ∀ (v : Int) (w : Nat), v = runeI (l.drop i) → w = (dec (l.drop i)).2 →
          (if s.length + ([v] : List Int).length ≤ LIM then ref03_Runes.l0 (strOfNums l) k (s ++ [v]) (wi64 ((i : Int) + (w : Int))) else none) = some (s ++ runesL (l.drop i)) := by
        intro v w hv hw'
        have hwi : wi64 ((i : Int) + (w : Int)) = ((i + (dec (l.drop i)).2 : Nat) : Int) := by rw [hw', wi64_id (by omega)]; omega
        rw [if_pos (by simp; omega), hwi, ih (s ++ [v]) (by simp only [List.length_append, List.length_cons, List.length_nil]; omega), runesL_cons hne, hv]
        simp
      by_cases hb : bad (l.drop i)
      · rw [if_pos hb]
        have d : decide ((-1 : Int) < 0) = true := rfl
        have e1 : wi64 (bn (l.drop i) 0 : Int) = (bn (l.drop i) 0 : Int) := wi64_id (by omega)
        have e2 : wi64 (1114112 + (bn (l.drop i) 0 : Int)) = 1114112 + (bn (l.drop i) 0 : Int) := wi64_id (by omega)
        simp only [d, hg, and_self, if_true, hbt, e1, e2, Option.bind_some]
        exact hstep _ 1 (by unfold runeI; rw [if_pos hb]) (by rw [bad_w hb])
      · rw [if_neg hb]
        have d : decide (((dec (l.drop i)).1 : Int) < 0) = false := by simp
        simp only [d, Bool.false_eq_true, if_false, Option.bind_some]
        exact hstep _ _ (by unfold runeI; rw [if_neg hb]) rfl) [] (by simpa using hn)
  rw [show ref03_Runes.l0 (strOfNums l) FU [] 0 = _ from this]
  simp
end Go.Cen
