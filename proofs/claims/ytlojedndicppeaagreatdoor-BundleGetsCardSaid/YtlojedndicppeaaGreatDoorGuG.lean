/- BUNDLE: what is read again. -/
import Derived.Test.YtlojedndicppeaaGreatDoorGVGet
set_option linter.unusedVariables false
set_option linter.unusedSimpArgs false
set_option maxRecDepth 100000
namespace Go.Cen
def cE : List Int := [67, 69, 78, 79]
theorem cE_isB : isB cE := by intro x hx; simp [cE] at hx; omega
theorem cut_eq {xs : List Int} (hx : isB xs) : strings_CutPrefix (strOfNums xs) (⟨#[67, 69, 78, 79]⟩ : ByteArray) = some (if xs.take 4 = cE then (strOfNums (xs.drop 4), true) else (strOfNums xs, false)) := by
  have h4 : (⟨#[67, 69, 78, 79]⟩ : ByteArray) = strOfNums cE := rfl
  have h4s : cE.length = 4 := rfl
  unfold strings_CutPrefix stringslite_CutPrefix stringslite_HasPrefix
  rw [h4]
  simp only [strOfNums_size, h4s]
  by_cases c : 4 ≤ xs.length
  · have d : decide ((xs.length : Int) ≥ ((4 : Nat) : Int)) = true := by simp; omega
    have g : (0 : Int) ≤ 0 ∧ (0 : Int) ≤ ((4 : Nat) : Int) ∧ ((4 : Nat) : Int) ≤ (xs.length : Int) := by omega
    have g2 : (0 : Int) ≤ ((4 : Nat) : Int) ∧ ((4 : Nat) : Int) ≤ (xs.length : Int) ∧ (xs.length : Int) ≤ (xs.length : Int) := by omega
    have e1 : sx (strOfNums xs) 0 ((4 : Nat) : Int) = strOfNums (xs.take 4) := by rw [sx_str]; simp
    have e2 : sx (strOfNums xs) ((4 : Nat) : Int) (xs.length : Int) = strOfNums (xs.drop 4) := by rw [sx_str]; simp
    simp only [d, if_true, g, g2, and_self, e1, e2, seq_str (isB_take hx 4) cE_isB, Option.bind_some]
    by_cases q : xs.take 4 = cE
    · simp [q]
    · simp [q]
  · have d : decide ((xs.length : Int) ≥ ((4 : Nat) : Int)) = false := by simp; omega
    have q : ¬ xs.take 4 = cE := fun e => by have := congrArg List.length e; rw [List.length_take, h4s] at this; omega
    simp only [d, Bool.false_eq_true, if_false, Option.bind_some, Bool.not_false, if_true]
    rw [if_neg q]
/-! ### events, one behind the other -/
theorem evs_any {f : Int} {h : List Int} {nn : Int} {N : Nat} (hN : N ≤ 400) : ∀ (m i k : Nat) (xs : List Int) (acc : List ApiEvent), i + m = N → m < k → isB xs → acc.length + m ≤ 1000000 →
    (∃ q, bundle_reader_events.l0 (N : Int) k (i : Int) f h acc (strOfNums xs) nn = some (.inl (false, q))) ∨
    ∃ (l : List ApiEvent) (r : List Int), l.length = m ∧ okL l ∧ allV l = true ∧ isB r ∧ xs = l.flatMap recL ++ r ∧ bundle_reader_events.l0 (N : Int) k (i : Int) f h acc (strOfNums xs) nn = some (.inr (f, h, acc ++ l, strOfNums r, nn))
  | 0, i, k, xs, acc, e, hk, hx, ha => by
    obtain ⟨k, rfl⟩ : ∃ q, k = q + 1 := ⟨k - 1, by omega⟩
    have d : decide ((i : Int) < (N : Int)) = false := by simp; omega
    exact .inr ⟨[], xs, rfl, nil_okL, rfl, hx, rfl, by simp only [bundle_reader_events.l0, d, Bool.false_eq_true, if_false, List.append_nil]⟩
  | m + 1, i, k, xs, acc, e, hk, hx, ha => by
    have hL := LIM_val
    obtain ⟨k, rfl⟩ : ∃ q, k = q + 1 := ⟨k - 1, by omega⟩
    have d : decide ((i : Int) < (N : Int)) = true := by simp; omega
    have hw : wi64 ((i : Int) + 1) = ((i + 1 : Nat) : Int) := by rw [wi64_id (by omega)]; omega
    have hnil : (⟨#[]⟩ : ByteArray) = strOfNums [] := rfl
    simp only [bundle_reader_events.l0, d, if_true]
    rcases text4_cases hx with ⟨ht, _⟩ | ⟨t, r, t1, tB, rB, te, ht, _⟩
    · left
      rw [ht]
      have : ∃ a b c, event_Get (strOfNums []) = some (a, b, c) := by
        rcases Get_any (xs := []) isB_nil (by simp) with h | ⟨_, _, _, _, _, _, _, h⟩
        · exact ⟨_, _, _, h⟩
        · exact ⟨_, _, _, h⟩
      obtain ⟨a, b, c, hg⟩ := this
      rw [hnil]
      simp only [Option.bind_some, hg, Bool.not_false, if_true]
      exact ⟨_, rfl⟩
    · rw [ht]
      simp only [Option.bind_some]
      rcases Get_any tB (by omega) with hg | ⟨v, r2, v1, v2, v3, r2B, hte, hg⟩
      · left; rw [hg]
        simp only [Option.bind_some, Bool.not_true, Bool.not_false, Bool.false_eq_true, if_false, if_true]
        exact ⟨_, rfl⟩
      · rw [hg]
        simp only [Option.bind_some, Bool.not_true, Bool.false_eq_true, if_false, seq_nil_str r2B]
        by_cases q : r2 = []
        · subst q
          have hl1 : acc.length + ([v] : List ApiEvent).length ≤ LIM := by simp only [List.length_cons, List.length_nil]; omega
          simp only [decide_true, Bool.not_true, Bool.false_eq_true, if_false, hl1, if_true, hw]
          rw [List.append_nil] at hte
          have hx2 : xs = recL v ++ r := by rw [te, hte]; rfl
          rcases evs_any (f := f) (h := h) (nn := nn) hN m (i + 1) k r (acc ++ [v]) (by omega) (by omega) rB (by simp only [List.length_append, List.length_cons, List.length_nil]; omega) with ih | ⟨l, r3, l1, l2, l3, l4, l5, l6⟩
          · exact .inl ih
          · right
            refine ⟨v :: l, r3, by simp [l1], ?_, by simp [allV, v3]; simpa [allV] using l3, l4, ?_, ?_⟩
            · intro x hx'
              rcases List.mem_cons.1 hx' with rfl | hx'
              · exact v1
              · exact l2 x hx'
            · rw [hx2, l5]; simp
            · rw [l6]; simp
        · left
          simp only [q, decide_false, Bool.not_false, if_true]
          exact ⟨_, rfl⟩
theorem revs_any {f : Int} {h : List Int} {N : Nat} (hN : N ≤ 400) : ∀ (m i k : Nat) (xs : List Int) (acc : List ApiEvent), i + m = N → m < k → isB xs → acc.length + m ≤ 1000000 →
    (ref11_Get.l0 (N : Int) k (strOfNums xs) (i : Int) f h acc = some (.inl (0, z32, [], false))) ∨
    ∃ (l : List ApiEvent) (r : List Int), l.length = m ∧ okL l ∧ allV l = true ∧ isB r ∧ xs = l.flatMap recL ++ r ∧ ref11_Get.l0 (N : Int) k (strOfNums xs) (i : Int) f h acc = some (.inr (f, h, acc ++ l))
  | 0, i, k, xs, acc, e, hk, hx, ha => by
    obtain ⟨k, rfl⟩ : ∃ q, k = q + 1 := ⟨k - 1, by omega⟩
    have d : decide ((i : Int) < (N : Int)) = false := by simp; omega
    exact .inr ⟨[], xs, rfl, nil_okL, rfl, hx, rfl, by simp only [ref11_Get.l0, d, Bool.false_eq_true, if_false, List.append_nil]⟩
  | m + 1, i, k, xs, acc, e, hk, hx, ha => by
    have hL := LIM_val
    obtain ⟨k, rfl⟩ : ∃ q, k = q + 1 := ⟨k - 1, by omega⟩
    have d : decide ((i : Int) < (N : Int)) = true := by simp; omega
    have hw : wi64 ((i : Int) + 1) = ((i + 1 : Nat) : Int) := by rw [wi64_id (by omega)]; omega
    simp only [ref11_Get.l0, d, if_true]
    rcases text4_cases hx with ⟨_, ht⟩ | ⟨t, r, t1, tB, rB, te, _, ht⟩
    · left
      rw [ht]
      simp only [Option.bind_some, Bool.not_false, if_true]
      rfl
    · rw [ht]
      simp only [Option.bind_some, Bool.not_true, Bool.false_eq_true, if_false]
      rcases rGet_any tB (by omega) with hg | ⟨v, r2, v1, v2, v3, r2B, hte, hg⟩
      · left; rw [hg]
        simp only [Option.bind_some, Bool.not_false, if_true]
        rfl
      · rw [hg]
        simp only [Option.bind_some, Bool.not_true, Bool.false_eq_true, if_false, seq_nil_str r2B]
        by_cases q : r2 = []
        · subst q
          have hl1 : acc.length + ([v] : List ApiEvent).length ≤ LIM := by simp only [List.length_cons, List.length_nil]; omega
          simp only [decide_true, Bool.not_true, Bool.false_eq_true, if_false, hl1, if_true, hw]
          rw [List.append_nil] at hte
          have hx2 : xs = recL v ++ r := by rw [te, hte]; rfl
          rcases revs_any (f := f) (h := h) hN m (i + 1) k r (acc ++ [v]) (by omega) (by omega) rB (by simp only [List.length_append, List.length_cons, List.length_nil]; omega) with ih | ⟨l, r3, l1, l2, l3, l4, l5, l6⟩
          · exact .inl ih
          · right
            refine ⟨v :: l, r3, by simp [l1], ?_, by simp [allV, v3]; simpa [allV] using l3, l4, ?_, ?_⟩
            · intro x hx'
              rcases List.mem_cons.1 hx' with rfl | hx'
              · exact v1
              · exact l2 x hx'
            · rw [hx2, l5]; simp
            · rw [l6]; simp
        · left
          simp only [q, decide_false, Bool.not_false, if_true]
          rfl
theorem evs_put {f : Int} {h : List Int} {nn : Int} {N : Nat} (hN : N ≤ 400) : ∀ (l : List ApiEvent) (i k : Nat) (r : List Int) (acc : List ApiEvent), i + l.length = N → l.length < k → isB r → r.length ≤ 1000 → okL l → allV l = true → acc.length + l.length ≤ 1000000 →
    bundle_reader_events.l0 (N : Int) k (i : Int) f h acc (strOfNums (l.flatMap recL ++ r)) nn = some (.inr (f, h, acc ++ l, strOfNums r, nn)) ∧
    ref11_Get.l0 (N : Int) k (strOfNums (l.flatMap recL ++ r)) (i : Int) f h acc = some (.inr (f, h, acc ++ l))
  | [], i, k, r, acc, e, hk, hr, hrl, hl, hv, ha => by
    obtain ⟨k, rfl⟩ : ∃ q, k = q + 1 := ⟨k - 1, by omega⟩
    simp only [List.length_nil] at e
    have d : decide ((i : Int) < (N : Int)) = false := by simp; omega
    simp only [bundle_reader_events.l0, ref11_Get.l0, d, Bool.false_eq_true, if_false, List.append_nil, List.flatMap_nil, List.nil_append, and_self]
  | v :: l, i, k, r, acc, e, hk, hr, hrl, hl, hv, ha => by
    have hL := LIM_val
    obtain ⟨k, rfl⟩ : ∃ q, k = q + 1 := ⟨k - 1, by omega⟩
    simp only [List.length_cons] at e hk ha
    simp only [allV, List.all_cons, Bool.and_eq_true] at hv
    have hv1 := hl v (by simp)
    have hl2 : okL l := fun x hx => hl x (by simp [hx])
    have d : decide ((i : Int) < (N : Int)) = true := by simp; omega
    have hw : wi64 ((i : Int) + 1) = ((i + 1 : Nat) : Int) := by rw [wi64_id (by omega)]; omega
    have hlen := putE_len2 hv1 hv.1
    have hrest : isB (l.flatMap recL ++ r) := isB_app (recs_isB hl2) hr
    have hb : (v :: l).flatMap recL ++ r = (numL (clampN ((putE v).length : Int)) ++ putE v) ++ (l.flatMap recL ++ r) := by simp [recL]
    obtain ⟨g1, g2⟩ := gtext4 (t := putE v) (by omega) (putE_isB hv1) hrest
    have g3 := Get_put hv1 (by have := valid_name hv.1; omega) hv.1 isB_nil
    have g4 := rGet_put hv1 (by have := valid_name hv.1; omega) hv.1 isB_nil (by simp)
    rw [List.append_nil] at g3 g4
    have hl1 : acc.length + ([v] : List ApiEvent).length ≤ LIM := by simp only [List.length_cons, List.length_nil]; omega
    obtain ⟨i1, i2⟩ := evs_put (f := f) (h := h) (nn := nn) hN l (i + 1) k r (acc ++ [v]) (by omega) (by omega) hr hrl hl2 hv.2 (by simp only [List.length_append, List.length_cons, List.length_nil]; omega)
    rw [hb]
    constructor
    · simp only [bundle_reader_events.l0, d, if_true, g1, Option.bind_some, g3, Bool.not_true, Bool.false_eq_true, if_false, seq_nil_str isB_nil, decide_true, hl1, hw]
      rw [i1]; simp
    · simp only [ref11_Get.l0, d, if_true, g2, Option.bind_some, g4, Bool.not_true, Bool.false_eq_true, if_false, seq_nil_str isB_nil, decide_true, hl1, hw]
      rw [i2]; simp
end Go.Cen

/- BUNDLE: what any bytes are. -/
set_option linter.unusedVariables false
set_option linter.unusedSimpArgs false
set_option maxRecDepth 100000
namespace Go.Cen
theorem four {xs : List Int} (c : xs.take 4 = cE) : xs = cE ++ xs.drop 4 := by rw [← c, List.take_append_drop]
theorem bunOk_mk {f : Int} {l : List ApiEvent} (h0 : 0 ≤ f) (h1 : f ≤ 400) (h2 : l.length ≤ 400) (h3 : allV l = true) : bunOk f l = true := by simp [bunOk, h0, h1, h2, h3]
theorem bunOk_un {f : Int} {l : List ApiEvent} (h : bunOk f l = true) : 0 ≤ f ∧ f ≤ 400 ∧ l.length ≤ 400 ∧ allV l = true := by
  simp only [bunOk, Bool.and_eq_true, decide_eq_true_eq] at h; exact h
theorem bunL_eq (f : Int) (h : List Int) (l : List ApiEvent) (r : List Int) : cE ++ (numL (clampN f) ++ (h ++ (numL (clampN (l.length : Int)) ++ (l.flatMap recL ++ r)))) = bunL f h l ++ r := by simp [bunL, headL, cE]
theorem bGet_any {xs : List Int} (hx : isB xs) (hn : xs.length ≤ 1000000) : bundle_Get (strOfNums xs) = some (0, z32, [], false) ∨
    ∃ (f : Int) (h : List Int) (l : List ApiEvent), h.length = 32 ∧ isB h ∧ okL l ∧ bunOk f l = true ∧ xs = bunL f h l ∧ bundle_Get (strOfNums xs) = some (f, h, l, true) := by
  obtain ⟨A, hA⟩ : ∃ A, bundle_Get (strOfNums xs) = A := ⟨_, rfl⟩
  rw [hA]
  unfold bundle_Get bundle_reader_begins at hA
  rw [cut_eq hx] at hA
  by_cases c : ¬ xs.take 4 = cE
  · left; rw [if_neg c] at hA; exact hA.symm
  have c : xs.take 4 = cE := Decidable.not_not.1 c
  have ex := four c
  rw [if_pos c] at hA
  simp only [Option.bind_some, Bool.not_true, Bool.false_eq_true, if_false] at hA
  unfold bundle_reader_from at hA
  have hy : isB (xs.drop 4) := isB_drop hx 4
  rcases wire_num_cases hy with h | ⟨f, r1, f0, f1, r1B, e1, h⟩
  · left; rw [h] at hA; exact hA.symm
  rw [h] at hA
  simp only [Option.bind_some, if_true] at hA
  by_cases c1 : ¬ f ≤ 400
  · left
    simp only [c1, decide_false, Bool.not_false, if_true, Option.bind_some] at hA
    exact hA.symm
  have c1 : f ≤ 400 := Decidable.not_not.1 c1
  simp only [c1, decide_true, Bool.not_true, Bool.false_eq_true, if_false] at hA
  unfold bundle_reader_head at hA
  rcases sum_cases r1B with ⟨a, b, h2⟩ | ⟨hd, r2, d1, d2, r2B, e2, h2⟩
  · left; rw [h2] at hA; exact hA.symm
  rw [h2] at hA
  simp only [Option.bind_some, Bool.not_true, Bool.false_eq_true, if_false] at hA
  unfold bundle_reader_count at hA
  rcases wire_num_cases r2B with h3 | ⟨n, r3, n0, n1, r3B, e3, h3⟩
  · left; rw [h3] at hA; exact hA.symm
  rw [h3] at hA
  simp only [Option.bind_some, if_true] at hA
  by_cases c2 : ¬ n ≤ 400
  · left
    simp only [c2, decide_false, Bool.not_false, if_true, Option.bind_some] at hA
    exact hA.symm
  have c2 : n ≤ 400 := Decidable.not_not.1 c2
  simp only [c2, decide_true, Bool.not_true, Bool.false_eq_true, if_false] at hA
  unfold bundle_reader_events at hA
  obtain ⟨N, rfl⟩ := Int.eq_ofNat_of_zero_le n0
  have hF : FU = 4611686018427387904 := rfl
  rcases evs_any (f := f) (h := hd) (nn := (N : Int)) (N := N) (by omega) N 0 FU r3 [] (by omega) (by omega) r3B (by simp only [List.length_nil]; omega) with ⟨q, h4⟩ | ⟨l, r4, l1, l2, l3, l4, l5, h4⟩
  · left
    rw [show bundle_reader_events.l0 (N : Int) FU 0 f hd [] (strOfNums r3) (N : Int) = _ from h4] at hA
    exact hA.symm
  rw [show bundle_reader_events.l0 (N : Int) FU 0 f hd [] (strOfNums r3) (N : Int) = _ from h4] at hA
  simp only [Option.bind_some, seq_nil_str l4, List.nil_append] at hA
  by_cases q : r4 = []
  · right
    subst q
    simp only [decide_true, Bool.not_true, Bool.false_eq_true, if_false, Option.bind_some] at hA
    refine ⟨f, hd, l, d1, d2, l2, bunOk_mk f0 c1 (by omega) l3, ?_, hA.symm⟩
    rw [ex, e1, e2, e3, l5, ← l1, bunL_eq, List.append_nil]
  · left
    simp only [q, decide_false, Bool.not_false, if_true, Option.bind_some] at hA
    exact hA.symm
theorem bGet_put {f : Int} {h : List Int} {l : List ApiEvent} (hh : h.length = 32) (hB : isB h) (hl : okL l) (hv : bunOk f l = true) : bundle_Get (strOfNums (bunL f h l)) = some (f, h, l, true) := by
  obtain ⟨f0, f1, l1, l2⟩ := bunOk_un hv
  have hF : FU = 4611686018427387904 := rfl
  have hr := recs_isB hl
  have e : bunL f h l = cE ++ (numL (clampN f) ++ (h ++ (numL (clampN (l.length : Int)) ++ l.flatMap recL))) := by
    have := bunL_eq f h l []
    simpa using this.symm
  have b1 : isB (numL (clampN (l.length : Int)) ++ l.flatMap recL) := isB_app (numL_isB _) hr
  have b2 := isB_app hB b1
  have b3 := isB_app (numL_isB (clampN f)) b2
  unfold bundle_Get bundle_reader_begins
  rw [cut_eq (bunL_isB hB hl), if_pos (by rw [e]; rfl)]
  have ed : (bunL f h l).drop 4 = numL (clampN f) ++ (h ++ (numL (clampN (l.length : Int)) ++ l.flatMap recL)) := by rw [e]; rfl
  obtain ⟨g4, _⟩ := evs_put (f := f) (h := h) (nn := (l.length : Int)) (N := l.length) l1 l 0 FU [] [] (by omega) (by omega) isB_nil (by simp) hl l2 (by simp only [List.length_nil]; omega)
  rw [List.append_nil] at g4
  have c2 : (l.length : Int) ≤ 400 := by omega
  simp only [Option.bind_some, Bool.not_true, Bool.false_eq_true, if_false, ed, bundle_reader_from, gnum f0 (by omega) b2, if_true, f1, decide_true, bundle_reader_head, gsum hh hB b1, bundle_reader_count, gnum (show (0 : Int) ≤ (l.length : Int) by omega) (by omega) hr, c2, bundle_reader_events]
  rw [show bundle_reader_events.l0 (l.length : Int) FU 0 f h [] (strOfNums (l.flatMap recL)) (l.length : Int) = _ from g4]
  simp only [Option.bind_some, seq_nil_str isB_nil, decide_true, Bool.not_true, Bool.false_eq_true, if_false, List.nil_append]
end Go.Cen

/- BUNDLE: what any bytes are, by the document. -/
set_option linter.unusedVariables false
set_option linter.unusedSimpArgs false
set_option maxRecDepth 100000
namespace Go.Cen
theorem rcut {xs : List Int} (hx : isB xs) : (if (decide (((strOfNums xs).size : Int) < 4)) = true then some true else (if (0 : Int) ≤ (0 : Int) ∧ (0 : Int) ≤ (4 : Int) ∧ (4 : Int) ≤ ((strOfNums xs).size : Int) then some (!(seq (sx (strOfNums xs) 0 4) (⟨#[67, 69, 78, 79]⟩ : ByteArray))) else none)) = some (!decide (xs.take 4 = cE)) := by
  have h4 : (⟨#[67, 69, 78, 79]⟩ : ByteArray) = strOfNums cE := rfl
  rw [h4, strOfNums_size]
  by_cases c : 4 ≤ xs.length
  · have d : decide ((xs.length : Int) < 4) = false := by simp; omega
    have e1 : sx (strOfNums xs) 0 4 = strOfNums (xs.take 4) := by rw [sx_str]; simp
    simp only [d, Bool.false_eq_true, if_false]
    rw [if_pos (by omega), e1, seq_str (isB_take hx 4) cE_isB]
  · have d : decide ((xs.length : Int) < 4) = true := by simp; omega
    have q : ¬ xs.take 4 = cE := fun e => by have := congrArg List.length e; rw [List.length_take, show cE.length = 4 from rfl] at this; omega
    simp only [d, if_true, q, decide_false, Bool.not_false]
theorem rbGet_any {xs : List Int} (hx : isB xs) (hn : xs.length ≤ 1000000) : ref11_Get (strOfNums xs) = some (0, z32, [], false) ∨
    ∃ (f : Int) (h : List Int) (l : List ApiEvent), h.length = 32 ∧ isB h ∧ okL l ∧ bunOk f l = true ∧ xs = bunL f h l ∧ ref11_Get (strOfNums xs) = some (f, h, l, true) := by
  obtain ⟨A, hA⟩ : ∃ A, ref11_Get (strOfNums xs) = A := ⟨_, rfl⟩
  rw [hA]
  unfold ref11_Get at hA
  rw [rcut hx] at hA
  by_cases c : ¬ xs.take 4 = cE
  · left
    simp only [c, decide_false, Bool.not_false, Option.bind_some, if_true] at hA
    exact hA.symm
  have c : xs.take 4 = cE := Decidable.not_not.1 c
  have ex := four c
  have hl4 : 4 ≤ xs.length := by
    have := congrArg List.length c; rw [List.length_take, show cE.length = 4 from rfl] at this; omega
  have es : sx (strOfNums xs) 4 ((strOfNums xs).size : Int) = strOfNums (xs.drop 4) := by rw [strOfNums_size, sx_str]; simp
  simp only [c, decide_true, Bool.not_true, Bool.false_eq_true, if_false, Option.bind_some, es] at hA
  rw [if_pos (by rw [strOfNums_size]; omega)] at hA
  have hy : isB (xs.drop 4) := isB_drop hx 4
  rcases rnum_cases hy with h | ⟨f, r1, f0, f1, r1B, e1, h⟩
  · left; rw [h] at hA; exact hA.symm
  rw [h] at hA
  simp only [Option.bind_some, Bool.not_true, Bool.false_eq_true, if_false] at hA
  rcases rs r1B with h2 | ⟨hd, r2, d1, d2, r2B, e2, h2⟩
  · left; rw [h2] at hA; exact hA.symm
  rw [h2] at hA
  simp only [Option.bind_some, Bool.not_true, Bool.false_eq_true, if_false] at hA
  rcases rnum_cases r2B with h3 | ⟨n, r3, n0, n1, r3B, e3, h3⟩
  · left; rw [h3] at hA; exact hA.symm
  rw [h3] at hA
  simp only [Option.bind_some, Bool.not_true, Bool.false_eq_true, if_false] at hA
  by_cases c2 : n > 400
  · left
    simp only [c2, decide_true, if_true] at hA
    exact hA.symm
  simp only [c2, decide_false, Bool.false_eq_true, if_false] at hA
  obtain ⟨N, rfl⟩ := Int.eq_ofNat_of_zero_le n0
  have hF : FU = 4611686018427387904 := rfl
  rcases revs_any (f := f) (h := hd) (N := N) (by omega) N 0 FU r3 [] (by omega) (by omega) r3B (by simp only [List.length_nil]; omega) with h4 | ⟨l, r4, l1, l2, l3, l4, l5, h4⟩
  · left
    rw [show ref11_Get.l0 (N : Int) FU (strOfNums r3) 0 f hd [] = _ from h4] at hA
    exact hA.symm
  rw [show ref11_Get.l0 (N : Int) FU (strOfNums r3) 0 f hd [] = _ from h4] at hA
  simp only [Option.bind_some, List.nil_append, rPut_eq d1 d2 l2 (show l.length ≤ 1000 by omega), bunR] at hA
  by_cases q : bunOk f l = true
  · rw [if_pos q] at hA
    have hbB := bunL_isB (f := f) d2 l2
    simp only [Bool.not_true, Bool.false_eq_true, if_false, seq_str hbB hx] at hA
    by_cases e : bunL f hd l = xs
    · right
      simp only [e, decide_true, Bool.not_true, Option.bind_some, Bool.false_eq_true, if_false] at hA
      exact ⟨f, hd, l, d1, d2, l2, q, e.symm, hA.symm⟩
    · left
      simp only [e, decide_false, Bool.not_false, Option.bind_some, if_true] at hA
      exact hA.symm
  · left
    rw [if_neg q] at hA
    exact hA.symm
theorem rbGet_put {f : Int} {h : List Int} {l : List ApiEvent} (hh : h.length = 32) (hB : isB h) (hl : okL l) (hv : bunOk f l = true) : ref11_Get (strOfNums (bunL f h l)) = some (f, h, l, true) := by
  obtain ⟨f0, f1, l1, l2⟩ := bunOk_un hv
  have hF : FU = 4611686018427387904 := rfl
  have hr := recs_isB hl
  have e : bunL f h l = cE ++ (numL (clampN f) ++ (h ++ (numL (clampN (l.length : Int)) ++ l.flatMap recL))) := by
    have := bunL_eq f h l []
    simpa using this.symm
  have b1 : isB (numL (clampN (l.length : Int)) ++ l.flatMap recL) := isB_app (numL_isB _) hr
  have b2 := isB_app hB b1
  have b3 := isB_app (numL_isB (clampN f)) b2
  have hbB := bunL_isB (f := f) hB hl
  unfold ref11_Get
  have ec : (bunL f h l).take 4 = cE := by rw [e]; rfl
  have ed : (bunL f h l).drop 4 = numL (clampN f) ++ (h ++ (numL (clampN (l.length : Int)) ++ l.flatMap recL)) := by rw [e]; rfl
  have es : sx (strOfNums (bunL f h l)) 4 ((strOfNums (bunL f h l)).size : Int) = strOfNums (numL (clampN f) ++ (h ++ (numL (clampN (l.length : Int)) ++ l.flatMap recL))) := by rw [strOfNums_size, sx_str, ← ed]; simp
  have hl4 : 4 ≤ (bunL f h l).length := by rw [e]; simp [cE]
  rw [rcut hbB]
  obtain ⟨_, g4⟩ := evs_put (f := f) (h := h) (nn := (l.length : Int)) (N := l.length) l1 l 0 FU [] [] (by omega) (by omega) isB_nil (by simp) hl l2 (by simp only [List.length_nil]; omega)
  rw [List.append_nil] at g4
  have c2 : ¬ (l.length : Int) > 400 := by omega
  have gs : ref04_GetSum (strOfNums (h ++ (numL (clampN (l.length : Int)) ++ l.flatMap recL))) = _ := (rsum_same b2).trans (gsum hh hB b1)
  simp only [ec, decide_true, Bool.not_true, Option.bind_some, Bool.false_eq_true, if_false, es]
  rw [if_pos (by rw [strOfNums_size]; omega)]
  simp only [rnum f0 (show f ≤ 1125899906842624 by omega) b2, Option.bind_some, Bool.not_true, Bool.false_eq_true, if_false, gs, rnum (show (0 : Int) ≤ (l.length : Int) by omega) (show (l.length : Int) ≤ 1125899906842624 by omega) hr, c2, decide_false]
  rw [show ref11_Get.l0 (l.length : Int) FU (strOfNums (l.flatMap recL)) 0 f h [] = _ from g4]
  simp only [Option.bind_some, List.nil_append, rPut_eq hh hB hl (show l.length ≤ 1000 by omega), bunR, hv, if_true, Bool.not_true, Bool.false_eq_true, if_false, seq_str hbB hbB, decide_true]
/-! ### alike -/
theorem sEqual_eq {a b : List ApiEvent} (h : a.length ≤ 100000) : ∃ r, slices_Equal_apiEvent a b = some r ∧ (r = true ↔ a = b) := by
  unfold slices_Equal_apiEvent
  by_cases hl : a.length = b.length
  · have hz : (((a.length : Nat) : Int) != (b.length : Int)) = false := by rw [hl]; simp
    rw [hz]
    have := loop_eq a b hl (by omega) eq_ApiEvent (fun k i => slices_Equal_apiEvent.l0 a b k i)
      (fun k hd => by simp only [slices_Equal_apiEvent.l0, hd]; rfl)
      (fun k i hi hd hg hg2 hw => by
        simp only [slices_Equal_apiEvent.l0, hd, if_true, hg, hg2, and_self, hw]
        cases eq_ApiEvent (gt a (i : Int)) (gt b (i : Int)) <;> simp)
    rw [show slices_Equal_apiEvent.l0 a b FU 0 = _ from this]
    have hz := zip_all_eq eq_ApiEvent eq_event_iff a b hl
    by_cases q : (a.zip b).all (fun p => eq_ApiEvent p.1 p.2) = true
    · rw [if_pos q]
      exact ⟨true, rfl, by simp [hz.1 q]⟩
    · rw [if_neg q]
      exact ⟨false, rfl, by simp; exact fun h => q (hz.2 h)⟩
  · have hz : (((a.length : Nat) : Int) != (b.length : Int)) = true := by simp; omega
    have : a ≠ b := fun h => hl (by rw [h])
    exact ⟨false, by simp [hz], by simp [this]⟩
theorem bSame_eq {f g : Int} {h k : List Int} {a b : List ApiEvent} (hn : a.length ≤ 100000) : ∃ r, bundle_Same f h a g k b = some r ∧ ref11_Same f h a g k b = some r ∧ (r = true ↔ f = g ∧ h = k ∧ a = b) := by
  obtain ⟨r, r1, r2⟩ := sEqual_eq (a := a) (b := b) hn
  obtain ⟨s, s1, s2⟩ := Same_eq (a := a) (b := b) hn
  have hrs : r = s := by rw [Bool.eq_iff_iff, r2, s2]
  subst hrs
  unfold bundle_Same ref11_Same
  rw [r1, s1]
  by_cases c : f = g
  · have d : (f == g) = true := by simp [c]
    simp only [d, if_true]
    by_cases c2 : h = k
    · have d2 : eqA h k = true := (eqA_iff h k).2 c2
      simp only [d2, if_true, Option.bind_some]
      exact ⟨r, rfl, rfl, by rw [r2]; simp [c, c2]⟩
    · have d2 : eqA h k = false := by rw [← Bool.not_eq_true, eqA_iff]; exact c2
      simp only [d2, Bool.false_eq_true, if_false, Option.bind_some]
      exact ⟨false, rfl, rfl, by simp [c2]⟩
  · have d : (f == g) = false := by simp [c]
    simp only [d, Bool.false_eq_true, if_false, Option.bind_some]
    exact ⟨false, rfl, rfl, by simp [c]⟩
theorem bSame_self {f : Int} {h : List Int} {a : List ApiEvent} (hn : a.length ≤ 100000) : bundle_Same f h a f h a = some true ∧ ref11_Same f h a f h a = some true := by
  obtain ⟨r, h1, h2, h3⟩ := bSame_eq (f := f) (g := f) (h := h) (k := h) (a := a) (b := a) hn
  have : r = true := h3.2 ⟨rfl, rfl, rfl⟩
  subst this
  exact ⟨h1, h2⟩
/-! ### handed out -/
end Go.Cen

/- BUNDLE: the examples, reckoned. -/
set_option linter.unusedVariables false
set_option maxRecDepth 100000
namespace Go.Cen
theorem works11k : law11_works = some true := by decide +kernel
end Go.Cen

/- BUNDLE: the laws Puts, Gets, Exports. -/
set_option linter.unusedVariables false
set_option linter.unusedSimpArgs false
set_option maxRecDepth 100000
namespace Go.Cen
theorem law11_BundleGets_eq (s : ByteArray) : law11_BundleGets s = some true := by
  unfold law11_BundleGets
  rw [works11k]
  simp only [Option.bind_some, Bool.not_true, Bool.false_eq_true, if_false]
  by_cases c : (s.size : Int) > 3000
  · simp [c]
  · have d : decide ((s.size : Int) > 3000) = false := by simpa using c
    obtain ⟨xs, xB, rfl, xl⟩ : ∃ xs, isB xs ∧ s = strOfNums xs ∧ xs.length = s.size := ⟨byts s, byts_isB s, (strOfNums_byts s).symm, byts_len s⟩
    simp only [d, Bool.false_eq_true, if_false]
    rcases bGet_any xB (by omega) with hg | ⟨f, h, l, h32, hB, hl, hv, e, hg⟩
    · rcases rbGet_any xB (by omega) with hr | ⟨f, h, l, h32, hB, hl, hv, e, hr⟩
      · have := (bSame_self (f := 0) (h := z32) (a := []) (by simp)).2
        rw [hg, hr]
        simp only [Option.bind_some, law11_Of, this, if_true, BEq.rfl]
      · exfalso
        have := bGet_put h32 hB hl hv
        rw [← e, hg] at this
        simp at this
    · have hr := rbGet_put h32 hB hl hv
      rw [← e] at hr
      have hn := (bunOk_un hv).2.2.1
      have := (bSame_self (f := f) (h := h) (a := l) (by omega)).2
      rw [hg, hr]
      simp only [Option.bind_some, law11_Of, this, if_true, BEq.rfl]
end Go.Cen
