/- CHAIN: heads, inputs. -/
import Derived.Test.YthdoklobbcedcabHEvC
set_option linter.unusedVariables false
set_option linter.unusedSimpArgs false
set_option maxRecDepth 100000
namespace Go.Cen
theorem dgx (s : ByteArray) : ∃ d, d = (sha_Of s).getD [] := ⟨_, rfl⟩
/-- a text's digest -/
noncomputable def dg (s : ByteArray) : List Int := Classical.choose (dgx s)
theorem dg_def (s : ByteArray) : dg s = (sha_Of s).getD [] := Classical.choose_spec (dgx s)
theorem dg_eq {s : ByteArray} (h : s.size ≤ 1000000000000) : sha_Of s = some (dg s) ∧ ref02_Of s = some (dg s) ∧ (dg s).length = 32 ∧ isB (dg s) := by
  obtain ⟨d, h1, h2, h3, h4⟩ := of_both h
  have : dg s = d := by rw [dg_def, h1]; rfl
  rw [this]
  exact ⟨h1, h2, h3, h4⟩
theorem putE_len {e : ApiEvent} (h : okE e) : (putE e).length ≤ 500000 := by
  have h1 := clampN_len e.Kind
  have h2 := parts_len e
  have h3 : ∀ (l : List Dyn143), (∀ d ∈ l, okD d) → (l.flatMap bytD).length ≤ 100008 * l.length := by
    intro l
    induction l with
    | nil => intro _; simp
    | cons d r ih =>
      intro hd
      have a := bytD_len (hd d (by simp))
      have b := ih (fun x hx => hd x (by simp [hx]))
      simp only [List.flatMap_cons, List.length_append, List.length_cons]; omega
  have h4 := h3 _ (parts_ok h)
  simp only [putE, List.length_append]; omega
theorem putE_isB {e : ApiEvent} (h : okE e) : isB (putE e) := isB_app (numL_isB _) (isB_flat fun d hd => bytD_isB (parts_ok h d hd))
noncomputable def nx (h : List Int) (e : ApiEvent) : List Int := dg (strOfNums (h ++ putE e))
theorem nx_ok {h : List Int} (hh : h.length = 32) {e : ApiEvent} (he : okE e) : (nx h e).length = 32 ∧ isB (nx h e) := by
  have := putE_len he
  obtain ⟨_, _, a, b⟩ := dg_eq (s := strOfNums (h ++ putE e)) (by rw [strOfNums_size, List.length_append]; omega)
  exact ⟨a, b⟩
theorem Link_eq {h : List Int} (hh : h.length = 32) {e : ApiEvent} (he : okE e) : sha_Link h (strOfNums (putE e)) = some (nx h e) ∧ ref02_Link h (strOfNums (putE e)) = some (nx h e) := by
  have hl := putE_len he
  obtain ⟨d, h1, h2, h3, h4, h5⟩ := link_both hh (a := strOfNums (putE e)) (by rw [strOfNums_size]; omega)
  rw [strOfNums_append] at h3
  have : nx h e = d := by unfold nx; rw [dg_def, h3]; rfl
  rw [this]
  exact ⟨h1, h2⟩
noncomputable def nextP (h : List Int) (e : ApiEvent) : List Int × Bool := if validE e then (nx h e, true) else (z32, false)
theorem Next_eq {h : List Int} (hh : h.length = 32) {e : ApiEvent} (he : okE e) : chain_Next h e = some (nextP h e) ∧ ref06_Next h e = some (nextP h e) := by
  unfold chain_Next ref06_Next nextP
  rw [event_Put_eq he, ref05_Put_eq he]
  unfold putR
  cases validE e with
  | false => exact ⟨rfl, rfl⟩
  | true =>
    simp only [if_true, Option.bind_some, Bool.not_true, Bool.false_eq_true, if_false, (Link_eq hh he).1, (Link_eq hh he).2, and_self]
def okL (l : List ApiEvent) : Prop := ∀ e ∈ l, okE e
def allV (l : List ApiEvent) : Bool := l.all validE
noncomputable def fin (h : List Int) (l : List ApiEvent) : List Int := l.foldl nx h
noncomputable def headP (h : List Int) (l : List ApiEvent) : List Int × Bool := if allV l then (fin h l, true) else (z32, false)
theorem fin_ok : ∀ {l : List ApiEvent} {h : List Int}, h.length = 32 → isB h → okL l → (fin h l).length = 32 ∧ isB (fin h l)
  | [], h, h1, h2, _ => ⟨h1, h2⟩
  | e :: r, h, h1, h2, hl => by
    obtain ⟨a, b⟩ := nx_ok h1 (hl e (by simp))
    exact fin_ok (l := r) a b (fun x hx => hl x (by simp [hx]))
noncomputable def headS (h : List Int) : List ApiEvent → (List Int × Bool) ⊕ List Int
  | [] => .inr h
  | e :: r => if validE e then headS (nx h e) r else .inl (z32, false)
theorem headS_eq : ∀ (l : List ApiEvent) (h : List Int), headS h l = if allV l then .inr (fin h l) else .inl (z32, false)
  | [], h => rfl
  | e :: r, h => by
    have := headS_eq r (nx h e)
    simp only [headS, allV, List.all_cons, fin, List.foldl_cons] at this ⊢
    rw [this]
    by_cases hv : validE e = true
    · simp [hv]
    · have hv' : validE e = false := by simpa using hv
      simp [hv']
theorem Head_eq {h : List Int} (hh : h.length = 32) {l : List ApiEvent} (hl : okL l) (hn : l.length ≤ 1000000) : chain_Head h l = some (headP h l) := by
  have := loopI l (by omega) (fun k i (s : List Int) => chain_Head.l0 l k i s) (fun r s => some (headS s r)) (fun r s => s.length = 32)
    (fun k s hd hI => by simp only [chain_Head.l0, hd, headS]; rfl)
    (fun k i x r s hi hlen hm hd hg hx hw hI ih => by
      have he := hl x hm
      simp only [chain_Head.l0, hd, if_true, hg, and_self, hx, (Next_eq hI he).1, Option.bind_some, nextP]
      cases hv : validE x with
      | false => simp [headS, hv]; rfl
      | true =>
        simp only [if_true, Bool.not_true, Bool.false_eq_true, if_false, hw]
        rw [ih _ (nx_ok hI he).1]
        simp [headS, hv]) h hh
  unfold chain_Head
  rw [show chain_Head.l0 l FU 0 h = _ from this, headS_eq]
  unfold headP
  cases allV l <;> rfl
/-! ### all inputs, and heads -/
noncomputable def pairsP (xs hd : List Int) : List ApiEvent → List (List Int × List Int) × Bool
  | [] => ([(xs, hd)], true)
  | e :: r => if validE e then ((xs, hd) :: (pairsP (hd ++ putE e) (nx hd e) r).1, (pairsP (hd ++ putE e) (nx hd e) r).2) else ([(xs, hd)], false)
theorem y1_eq (H : List (List Int)) (S : List ByteArray) (s : ByteArray) (h : List Int) (h1 : H.length ≤ 100000) (h2 : S.length ≤ 100000) : chain_both.y1 (H, S) s h = some (H ++ [h], S ++ [s]) := by
  have hL := LIM_val
  have a1 : S.length + ([s] : List ByteArray).length ≤ LIM := by simp; omega
  have a2 : H.length + ([h] : List (List Int)).length ≤ LIM := by simp; omega
  simp only [chain_both.y1, a1, a2, if_true]
theorem each_l0 {l : List ApiEvent} (hl : okL l) (hn : l.length ≤ 10000) : ∀ (r : List ApiEvent) (i k : Nat) (hd xs : List Int) (H : List (List Int)) (S : List ByteArray), l.drop i = r → i + r.length = l.length → r.length < k → hd.length = 32 →
    H.length + r.length ≤ 50000 → S.length + r.length ≤ 50000 → ∃ t, chain_each_1.l0 chain_both.y1 l k (i : Int) hd (H, S) (strOfNums xs) true = some (.inl ((H ++ (pairsP xs hd r).1.map Prod.snd, S ++ (pairsP xs hd r).1.map (fun p => strOfNums p.1)), t, (pairsP xs hd r).2))
  | [], i, k, hd, xs, H, S, e1, e2, hk, h32, hH, hS => by
    obtain ⟨k, rfl⟩ : ∃ m, k = m + 1 := ⟨k - 1, by omega⟩
    simp only [List.length_nil, Nat.add_zero] at e2 hH hS
    have hi : ((i : Int) == (l.length : Int)) = true := by rw [e2]; simp
    refine ⟨strOfNums xs, ?_⟩
    simp only [chain_each_1.l0, y1_eq H S _ _ (by omega) (by omega), Option.bind_some, hi, if_true, pairsP, List.map_cons, List.map_nil]
  | e :: r, i, k, hd, xs, H, S, e1, e2, hk, h32, hH, hS => by
    obtain ⟨k, rfl⟩ : ∃ m, k = m + 1 := ⟨k - 1, by omega⟩
    simp only [List.length_cons] at e2 hH hS hk
    have hlt : i < l.length := by omega
    have hi : ((i : Int) == (l.length : Int)) = false := by simp; omega
    have hg : 0 ≤ (i : Int) ∧ (i : Int) < (l.length : Int) := ⟨by omega, by omega⟩
    have hcons : l.drop i = l[i] :: l.drop (i + 1) := List.drop_eq_getElem_cons hlt
    rw [hcons] at e1
    simp only [List.cons.injEq] at e1
    have hx : gt l (i : Int) = e := by rw [gt_nat l i hlt]; exact e1.1
    have he : okE e := hl e (by rw [← e1.1]; exact List.getElem_mem _)
    have hpl := putE_len he
    have hL := LIM_val
    have hw : wi64 ((i : Int) + 1) = ((i + 1 : Nat) : Int) := by rw [wi64_id (by omega)]; omega
    have hq : (strOfNums hd).size + (strOfNums (putE e)).size ≤ LIM := by rw [strOfNums_size, strOfNums_size]; omega
    simp only [chain_each_1.l0, y1_eq H S _ _ (by omega) (by omega), Option.bind_some, hi, Bool.false_eq_true, if_false, hg, and_self, if_true, hx, event_Put_eq he, putR]
    cases hv : validE e with
    | false =>
      refine ⟨strOfNums xs, ?_⟩
      simp only [Bool.false_eq_true, if_false, Bool.not_false, if_true, pairsP, hv, List.map_cons, List.map_nil]
    | true =>
      have hsz : (strOfNums (hd ++ putE e)).size ≤ 1000000000000 := by rw [strOfNums_size, List.length_append]; omega
      have hdg := (dg_eq hsz).1
      obtain ⟨t, ht⟩ := each_l0 hl hn r (i + 1) k (nx hd e) (hd ++ putE e) (H ++ [hd]) (S ++ [strOfNums xs]) e1.2 (by omega) (by omega) (nx_ok h32 he).1 (by simp; omega) (by simp; omega)
      refine ⟨t, ?_⟩
      simp only [if_true, Bool.not_true, Bool.false_eq_true, if_false, hq, strOfNums_append, hdg, Option.bind_some, hw]
      refine Eq.trans ht ?_
      simp only [pairsP, hv, if_true, List.map_cons, List.append_assoc, List.singleton_append]
def c0 : List Int := [99, 101, 110, 111, 116, 97, 112, 104]
noncomputable def hd0 : List Int := dg (strOfNums c0)
theorem c0_eq : (⟨#[99, 101, 110, 111, 116, 97, 112, 104]⟩ : ByteArray) = strOfNums c0 := rfl
theorem hd0_eq : sha_Of (strOfNums c0) = some hd0 ∧ ref02_Of (strOfNums c0) = some hd0 ∧ hd0.length = 32 ∧ isB hd0 := dg_eq (by rw [strOfNums_size]; decide)
noncomputable def inp (xs hd : List Int) : List ApiEvent → List (List Int)
  | [] => [xs]
  | e :: r => xs :: inp (hd ++ putE e) (nx hd e) r
noncomputable def hds (hd : List Int) : List ApiEvent → List (List Int)
  | [] => [hd]
  | e :: r => hd :: hds (nx hd e) r
theorem pairs_eq : ∀ (l : List ApiEvent) (xs hd : List Int), (pairsP xs hd l).2 = allV l ∧ (allV l = true → (pairsP xs hd l).1.map Prod.snd = hds hd l ∧ (pairsP xs hd l).1.map (fun p => strOfNums p.1) = (inp xs hd l).map strOfNums)
  | [], xs, hd => ⟨rfl, fun _ => ⟨rfl, rfl⟩⟩
  | e :: r, xs, hd => by
    obtain ⟨h1, h2⟩ := pairs_eq r (hd ++ putE e) (nx hd e)
    simp only [pairsP, allV, List.all_cons, inp, hds]
    cases hv : validE e with
    | false => simp
    | true =>
      simp only [if_true, Bool.true_and, List.map_cons]
      refine ⟨h1, fun h => ?_⟩
      obtain ⟨a, b⟩ := h2 h
      exact ⟨by rw [a], by rw [b]⟩
theorem both_eq {l : List ApiEvent} (hl : okL l) (hn : l.length ≤ 10000) : chain_both l = some (if allV l then ((inp c0 hd0 l).map strOfNums, hds hd0 l) else ([], [])) := by
  unfold chain_both chain_each chain_each_1
  have hF : FU = 4611686018427387904 := rfl
  obtain ⟨t, ht⟩ := each_l0 hl hn l 0 FU hd0 c0 [] [] rfl (by omega) (by omega) hd0_eq.2.2.1 (by simp; omega) (by simp; omega)
  have ht' : chain_each_1.l0 chain_both.y1 l FU 0 hd0 ([], []) (strOfNums c0) true = _ := ht
  simp only [Option.bind_some, c0_eq, hd0_eq.1, ht', List.nil_append]
  obtain ⟨h1, h2⟩ := pairs_eq l c0 hd0
  rw [h1]
  cases hv : allV l with
  | false => simp
  | true =>
    obtain ⟨a, b⟩ := h2 hv
    simp only [Bool.not_true, Bool.false_eq_true, if_false, if_true, a, b]
theorem Heads_eq {l : List ApiEvent} (hl : okL l) (hn : l.length ≤ 10000) : chain_Heads l = some (if allV l then hds hd0 l else []) := by
  unfold chain_Heads
  rw [both_eq hl hn]
  cases allV l <;> rfl
theorem Start_eq : chain_Start = some hd0 := by
  unfold chain_Start
  rw [c0_eq, hd0_eq.1]; rfl
/-! ### what heads are -/
theorem hds_len : ∀ (l : List ApiEvent) (h : List Int), (hds h l).length = l.length + 1
  | [], h => rfl
  | e :: r, h => by simp [hds, hds_len r]
theorem inp_len : ∀ (l : List ApiEvent) (xs h : List Int), (inp xs h l).length = l.length + 1
  | [], xs, h => rfl
  | e :: r, xs, h => by simp [inp, inp_len r]
theorem hds_get : ∀ (l : List ApiEvent) (h : List Int) (n : Nat), n ≤ l.length → (hds h l)[n]? = some (fin h (l.take n))
  | [], h, n, hn => by have : n = 0 := by simpa using hn
                       subst this; rfl
  | e :: r, h, 0, _ => rfl
  | e :: r, h, n + 1, hn => by
    have := hds_get r (nx h e) n (by simpa using hn)
    simpa [hds, fin] using this
theorem inp_get : ∀ (l : List ApiEvent) (xs h : List Int) (n : Nat) (hn : n < l.length), (inp xs h l)[n + 1]? = some (fin h (l.take n) ++ putE l[n])
  | e :: r, xs, h, 0, _ => by cases r <;> rfl
  | e :: r, xs, h, n + 1, hn => by
    have := inp_get r (h ++ putE e) (nx h e) n (by simpa using hn)
    simpa [inp, fin] using this
theorem inp_zero (l : List ApiEvent) (xs h : List Int) : (inp xs h l)[0]? = some xs := by cases l <;> rfl
theorem gt_some {α : Type} [Inhabited α] {xs : List α} {n : Nat} {v : α} (h : xs[n]? = some v) : gt xs (n : Int) = v := by simp [gt, List.getD_eq_getElem?_getD, h]
end Go.Cen
