/- NAME: the order of names; the laws of joining. -/
import Derived.Test.YthdoklobbcedcadDoorFNameA
set_option linter.unusedVariables false
set_option linter.unusedSimpArgs false
namespace Go.Cen
/-! ### runes tell their bytes -/
theorem runeI_bytes {l m : List Int} (hl : isB l) (hm : isB m) (hl0 : l ≠ []) (hm0 : m ≠ []) (h : runeI l = runeI m) : l.take (dec l).2 = m.take (dec m).2 := by
  have bl := bn_lt hl 0; have bm := bn_lt hm 0
  have ll := List.length_pos_iff.2 hl0; have lm := List.length_pos_iff.2 hm0
  unfold runeI at h
  by_cases h1 : bad l
  · by_cases h2 : bad m
    · rw [if_pos h1, if_pos h2] at h
      rw [bad_w h1, bad_w h2]
      simp only
      rw [take1 hl ll, take1 hm lm]
      congr 1; omega
    · rw [if_pos h1, if_neg h2] at h
      rcases dec_cases m hm0 hm with ⟨a, e⟩ | ⟨_, e⟩ | ⟨_, _, _, a, _⟩
      · rw [e] at h; simp only at h; omega
      · exact absurd e h2
      · omega
  · by_cases h2 : bad m
    · rw [if_neg h1, if_pos h2] at h
      rcases dec_cases l hl0 hl with ⟨a, e⟩ | ⟨_, e⟩ | ⟨_, _, _, a, _⟩
      · rw [e] at h; simp only at h; omega
      · exact absurd e h1
      · omega
    · rw [if_neg h1, if_neg h2] at h
      rw [← enc_dec hl hl0 h1, ← enc_dec hm hm0 h2]
      congr 1; omega
theorem runesL_inj : ∀ l, isB l → ∀ m, isB m → runesL l = runesL m → l = m := by
  refine seg_ind ?_ ?_
  · intro m hm h
    by_cases h0 : m = []
    · exact h0.symm
    · rw [runesL_nil, runesL_cons h0] at h; cases h
  · intro l hl hB ih m hm h
    by_cases h0 : m = []
    · rw [h0, runesL_nil, runesL_cons hl] at h; cases h
    · rw [runesL_cons hl, runesL_cons h0] at h
      simp only [List.cons.injEq] at h
      have e1 := runeI_bytes hB hm hl h0 h.1
      have e2 := ih _ (isB_drop hm _) h.2
      rw [← List.take_append_drop (dec l).2 l, ← List.take_append_drop (dec m).2 m, e1, e2]
/-- ahead, in the order of the runes -/
def lessL : List Int → List Int → Bool
  | [], [] => false
  | [], _ :: _ => true
  | _ :: _, [] => false
  | a :: x, b :: y => if a = b then lessL x y else decide (a < b)
theorem lessL_total : ∀ x y, x ≠ y → (lessL x y || lessL y x) = true
  | [], [], h => absurd rfl h
  | [], _ :: _, _ => rfl
  | _ :: _, [], _ => rfl
  | a :: x, b :: y, h => by
    unfold lessL
    by_cases e : a = b
    · subst e
      rw [if_pos rfl, if_pos rfl]
      exact lessL_total x y (fun e => h (by rw [e]))
    · rw [if_neg e, if_neg (fun h => e h.symm)]
      simp; omega
theorem lessL_trans : ∀ x y z, lessL x y = true → lessL y z = true → lessL x z = true
  | [], [], _, h, _ => by cases h
  | [], _ :: _, [], _, h => by cases h
  | [], _ :: _, _ :: _, _, _ => rfl
  | _ :: _, [], _, h, _ => by cases h
  | _ :: _, _ :: _, [], _, h => by cases h
  | a :: x, b :: y, c :: z, h1, h2 => by
    unfold lessL at h1 h2 ⊢
    by_cases e : a = b
    · subst e
      rw [if_pos rfl] at h1
      by_cases e2 : a = c
      · subst e2
        rw [if_pos rfl] at h2 ⊢
        exact lessL_trans x y z h1 h2
      · rw [if_neg e2] at h2 ⊢
        exact h2
    · rw [if_neg e] at h1
      by_cases e2 : b = c
      · subst e2
        rw [if_neg e]; exact h1
      · rw [if_neg e2] at h2
        simp at h1 h2
        rw [if_neg (by omega)]
        simp; omega
def lessW : List Int → List Int → Bool ⊕ Unit
  | [], _ => .inr ()
  | _ :: _, [] => .inl false
  | a :: x, b :: y => if a = b then lessW x y else .inl (decide (a < b))
theorem lessW_eq : ∀ x y, (match lessW x y with | .inl v => v | .inr _ => decide ((x.length : Int) < (y.length : Int))) = lessL x y
  | [], [] => rfl
  | [], _ :: _ => by simp [lessW, lessL] <;> omega
  | _ :: _, [] => rfl
  | a :: x, b :: y => by
    have ih := lessW_eq x y
    simp only [lessW, lessL]
    by_cases e : a = b
    · simp only [if_pos e]
      rw [← ih]
      cases lessW x y with
      | inl v => rfl
      | inr u =>
        simp only [List.length_cons]
        congr 1
        apply propext
        omega
    · simp only [if_neg e]
theorem Less_l0 (x y : List Int) (hx : x.length ≤ 1000000) : name_Less.l0 x y FU 0 = some (lessW x y) := by
  have := loopN x.length (by omega) (fun k i (_ : Unit) => name_Less.l0 x y k i) (fun i _ => some (lessW (x.drop i) (y.drop i))) (fun k s => by
      have hd : decide (((x.length : Nat) : Int) < (x.length : Int)) = false := by simp
      simp only [name_Less.l0, hd, List.drop_length, lessW]
      rfl)
    (fun k i hi hw s ih => by
      have hd : decide ((i : Int) < (x.length : Int)) = true := by simp; omega
      have hdr : x.drop i = x[i] :: x.drop (i + 1) := List.drop_eq_getElem_cons hi
      have hg : gt x (i : Int) = x[i] := gt_nat x i hi
      have ih' := ih ()
      simp only [name_Less.l0, hd, if_true, hg, hw]
      rw [if_pos (by omega), hdr]
      by_cases hy : i < y.length
      · have hdy : y.drop i = y[i] :: y.drop (i + 1) := List.drop_eq_getElem_cons hy
        have hgy : gt y (i : Int) = y[i] := gt_nat y i hy
        have d2 : decide ((i : Int) ≥ (y.length : Int)) = false := by simp; omega
        simp only [d2, Bool.false_eq_true, if_false, hgy]
        rw [if_pos (by omega), hdy]
        simp only [lessW]
        by_cases e : x[i] = y[i]
        · have : (x[i] != y[i]) = false := by simp [e]
          rw [if_pos e]
          simp only [this, Bool.false_eq_true, if_false]
          exact ih'
        · have : (x[i] != y[i]) = true := by simp [e]
          rw [if_neg e]
          simp only [this, if_true]
          rw [if_pos (by omega)]
      · have hdy : y.drop i = [] := List.drop_eq_nil_iff.2 (by omega)
        have d2 : decide ((i : Int) ≥ (y.length : Int)) = true := by simp; omega
        simp only [d2, if_true, hdy, lessW]) ()
  simpa using this
theorem name_Less_str {a b : List Int} (ha : isB a) (hb : isB b) (hna : a.length ≤ 100000) (hnb : b.length ≤ 100000) : name_Less (strOfNums a) (strOfNums b) = some (lessL (runesL a) (runesL b)) := by
  have h1 := cnt_le a ha
  unfold name_Less
  rw [name_runes_str ha (by omega), name_runes_str hb (by omega)]
  simp only [Option.bind_some]
  have : (runesL a).length = cnt a := rfl
  rw [Less_l0 _ _ (by omega), ← lessW_eq]
  simp only [Option.bind_some]
  cases lessW (runesL a) (runesL b) <;> rfl
end Go.Cen
