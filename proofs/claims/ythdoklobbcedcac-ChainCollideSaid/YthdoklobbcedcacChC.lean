/- CHAIN: the laws on heads. -/
import Derived.Test.YthdoklobbcedcacChB
set_option linter.unusedVariables false
set_option linter.unusedSimpArgs false
set_option maxRecDepth 100000
namespace Go.Cen
/-! ### two rows of one head -/
theorem Same_eq {a b : List ApiEvent} (h : a.length ≤ 100000) : ∃ r, ref05_Same a b = some r ∧ (r = true ↔ a = b) := by
  unfold ref05_Same
  by_cases hl : a.length = b.length
  · have hz : (((a.length : Nat) : Int) != (b.length : Int)) = false := by rw [hl]; simp
    rw [hz]
    have := loop_eq a b hl (by omega) eq_ApiEvent (fun k i => ref05_Same.l0 a b k i)
      (fun k hd => by simp only [ref05_Same.l0, hd]; rfl)
      (fun k i hi hd hg hg2 hw => by
        simp only [ref05_Same.l0, hd, if_true, hg, hg2, and_self, hw]
        cases eq_ApiEvent (gt a (i : Int)) (gt b (i : Int)) <;> simp)
    rw [show ref05_Same.l0 a b FU 0 = _ from this]
    have hz := zip_all_eq eq_ApiEvent eq_event_iff a b hl
    by_cases q : (a.zip b).all (fun p => eq_ApiEvent p.1 p.2) = true
    · rw [if_pos q]
      exact ⟨true, rfl, by simp [hz.1 q]⟩
    · rw [if_neg q]
      exact ⟨false, rfl, by simp; exact fun h => q (hz.2 h)⟩
  · have hz : (((a.length : Nat) : Int) != (b.length : Int)) = true := by simp; omega
    have : a ≠ b := fun h => hl (by rw [h])
    exact ⟨false, by simp [hz], by simp [this]⟩
theorem colS_self : ∀ x, colS x x = (⟨#[]⟩, ⟨#[]⟩, false)
  | [] => rfl
  | u :: r => by simp [colS, colS_self r]
theorem inp_snoc (e : ApiEvent) : ∀ (l : List ApiEvent) (xs h : List Int), inp xs h (l ++ [e]) = inp xs h l ++ [fin h l ++ putE e]
  | [], xs, h => rfl
  | f :: r, xs, h => by
    have := inp_snoc e r (h ++ putE f) (nx h f)
    simp only [List.cons_append, inp, fin, List.foldl_cons] at this ⊢
    rw [this]
noncomputable def finR : List ApiEvent → List Int
  | [] => hd0
  | e :: m => nx (finR m) e
noncomputable def rinR : List ApiEvent → List (List Int)
  | [] => [c0]
  | e :: m => (finR m ++ putE e) :: rinR m
theorem finR_eq : ∀ m, finR m = fin hd0 m.reverse
  | [] => rfl
  | e :: m => by rw [List.reverse_cons, fin_app, finR, finR_eq m]; simp [fin]
theorem rinR_eq : ∀ m, rinR m = (inp c0 hd0 m.reverse).reverse
  | [] => rfl
  | e :: m => by
    have := inp_snoc e m.reverse c0 hd0
    rw [List.reverse_cons, this, List.reverse_append, rinR, rinR_eq m, finR_eq m]; simp
theorem finR_ok : ∀ {m : List ApiEvent}, okL m → (finR m).length = 32 ∧ isB (finR m)
  | [], _ => ⟨hd0_eq.2.2.1, hd0_eq.2.2.2⟩
  | e :: m, h => nx_ok (finR_ok (m := m) (fun x hx => h x (by simp [hx]))).1 (h e (by simp))
/-- two texts of one digest -/
def colK (x y : List (List Int)) : Prop := ∃ u v, colS x y = (strOfNums u, strOfNums v, true) ∧ u ≠ v ∧ isB u ∧ isB v ∧ u.length ≤ 1000000 ∧ v.length ≤ 1000000 ∧ dg (strOfNums u) = dg (strOfNums v)
theorem step_ok {e : ApiEvent} {m : List ApiEvent} (h : okL (e :: m)) : isB (finR m ++ putE e) ∧ (finR m ++ putE e).length ≤ 1000000 ∧ 33 ≤ (finR m ++ putE e).length ∧ dg (strOfNums (finR m ++ putE e)) = finR (e :: m) := by
  have he := h e (by simp)
  obtain ⟨a, b⟩ := finR_ok (m := m) (fun x hx => h x (by simp [hx]))
  have := putE_len he
  have := putE_pos e
  exact ⟨isB_app b (putE_isB he), by rw [List.length_append]; omega, by rw [List.length_append]; omega, rfl⟩
theorem col_main : ∀ (m n : List ApiEvent), okL m → okL n → allV m = true → allV n = true → finR m = finR n → m = n ∨ colK (rinR m) (rinR n)
  | [], [], _, _, _, _, _ => .inl rfl
  | [], e :: n, hm, hn, vm, vn, h => by
    obtain ⟨a, b, c, d⟩ := step_ok hn
    have ne : c0 ≠ finR n ++ putE e := fun q => by have := congrArg List.length q; simp only [c0, List.length_cons, List.length_nil] at this; omega
    exact .inr ⟨c0, finR n ++ putE e, by simp [rinR, colS, ne], ne, c0_isB, a, by decide, b, by rw [d, ← h]; rfl⟩
  | e :: m, [], hm, hn, vm, vn, h => by
    obtain ⟨a, b, c, d⟩ := step_ok hm
    have ne : finR m ++ putE e ≠ c0 := fun q => by have := congrArg List.length q; simp only [c0, List.length_cons, List.length_nil] at this; omega
    exact .inr ⟨finR m ++ putE e, c0, by simp [rinR, colS, ne], ne, a, c0_isB, b, by decide, by rw [d, h]; rfl⟩
  | e :: m, f :: n, hm, hn, vm, vn, h => by
    obtain ⟨a, b, c, d⟩ := step_ok hm
    obtain ⟨a', b', c', d'⟩ := step_ok hn
    have om : okL m := fun x hx => hm x (by simp [hx])
    have on : okL n := fun x hx => hn x (by simp [hx])
    simp only [allV, List.all_cons, Bool.and_eq_true] at vm vn
    by_cases q : finR m ++ putE e = finR n ++ putE f
    · obtain ⟨q1, q2⟩ := List.append_inj q (by rw [(finR_ok om).1, (finR_ok on).1])
      have q3 := (putE_inj (hm e (by simp)) (hn f (by simp)) vm.1 vn.1 (r := []) (s := []) (by rw [q2])).1
      rcases col_main m n om on vm.2 vn.2 q1 with rfl | ⟨u, v, h1, h2⟩
      · exact .inl (by rw [q3])
      · exact .inr ⟨u, v, by simp only [rinR, colS, if_pos q]; exact h1, h2⟩
    · exact .inr ⟨_, _, by simp only [rinR, colS, if_neg q], q, a, a', b, b', by rw [d, d', h]⟩
theorem law06_ChainCollide_eq (a0 a1 : List ApiEvent) (s0 : sumsOk a0) (s1 : sumsOk a1) : law06_ChainCollide a0 a1 = some true := by
  unfold law06_ChainCollide
  rw [works06]
  simp only [Option.bind_some, Bool.not_true, Bool.false_eq_true, if_false, Few_eq]
  cases f1 : fewE a0 with
  | false => rfl
  | true =>
    cases f2 : fewE a1 with
    | false => rfl
    | true =>
      obtain ⟨o1, n1⟩ := few_ok s0 f1
      obtain ⟨o2, n2⟩ := few_ok s1 f2
      obtain ⟨r, hr, hrr⟩ := Same_eq (a := a0) (b := a1) (by omega)
      have h32 := hd0_eq.2.2.1
      simp only [if_true, Option.bind_some, Bool.not_true, Bool.false_eq_true, if_false, Start_eq, Head_eq h32 o1 (by omega), Head_eq h32 o2 (by omega), Collide_eq o1 o2 (by omega) (by omega), hr]
      unfold headP colP
      cases v1 : allV a0 with
      | false => simp [seq_refl]
      | true =>
        cases v2 : allV a1 with
        | false => simp [seq_refl]
        | true =>
          cases he : eqA (fin hd0 a0) (fin hd0 a1) with
          | false => simp [he, seq_refl]
          | true =>
            simp only [if_true, Bool.not_true, Bool.false_eq_true, if_false, he, Bool.and_self, Option.bind_some]
            by_cases q : a0 = a1
            · have : r = true := hrr.2 q
              subst q
              simp [this, colS_self]
            · have hrf : r = false := by
                cases r with
                | false => rfl
                | true => exact absurd (hrr.1 rfl) q
              have hm := col_main a0.reverse a1.reverse (fun x hx => o1 x (by simpa using hx)) (fun x hx => o2 x (by simpa using hx)) (by unfold allV at v1 ⊢; rw [List.all_reverse]; exact v1) (by unfold allV at v2 ⊢; rw [List.all_reverse]; exact v2) (by rw [finR_eq, finR_eq, List.reverse_reverse, List.reverse_reverse]; exact (eqA_iff _ _).1 he)
              rw [rinR_eq, rinR_eq, List.reverse_reverse, List.reverse_reverse] at hm
              rcases hm with hm | ⟨u, v, h1, h2, h3, h4, h5, h6, h7⟩
              · exact absurd (List.reverse_inj.1 hm) q
              · have su := (dg_eq (s := strOfNums u) (by rw [strOfNums_size]; omega)).1
                have sv := (dg_eq (s := strOfNums v) (by rw [strOfNums_size]; omega)).1
                have hsq : seq (strOfNums u) (strOfNums v) = false := by rw [seq_str h3 h4]; simp [h2]
                simp [hrf, h1, hsq, su, sv, h7, eqA_refl, same_eq su sv]
end Go.Cen
