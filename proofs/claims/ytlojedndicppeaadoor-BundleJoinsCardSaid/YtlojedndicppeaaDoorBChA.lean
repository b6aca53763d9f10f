/- CHAIN: heads, inputs. -/
import Derived.Test.YtlojedndicppeaaDoorBShaD
import Derived.Test.YtlojedndicppeaaDoorPy
import Derived.Test.YtlojedndicppeaaDoorCenPl
import Derived.Test.YtlojedndicppeaaDoorBEvG
set_option linter.unusedVariables false
set_option linter.unusedSimpArgs false
set_option maxRecDepth 100000
namespace Go.Cen
theorem dgx (s : ByteArray) : ∃ d, d = (sha_Of s).getD [] := ⟨_, rfl⟩
/-- a text's digest -/
noncomputable def dg (s : ByteArray) : List Int := Classical.choose (dgx s)
theorem dg_def (s : ByteArray) : dg s = (sha_Of s).getD [] := Classical.choose_spec (dgx s)
theorem dg_eq {s : ByteArray} (h : s.size ≤ 1000000000000) : sha_Of s = some (dg s) ∧ ref02_Of s = some (dg s) ∧ (dg s).length = 32 ∧ isB (dg s) := by
  obtain ⟨d, h1, h2, h3, h4⟩ := of_both h
  have : dg s = d := by rw [dg_def, h1]; rfl
  rw [this]
  exact ⟨h1, h2, h3, h4⟩
theorem putE_len {e : ApiEvent} (h : okE e) : (putE e).length ≤ 500000 := by
  have h1 := clampN_len e.Kind
  have h2 := parts_len e
  have h3 : ∀ (l : List Dyn72), (∀ d ∈ l, okD d) → (l.flatMap bytD).length ≤ 100008 * l.length := by
    intro l
    induction l with
    | nil => intro _; simp
    | cons d r ih =>
      intro hd
      have a := bytD_len (hd d (by simp))
      have b := ih (fun x hx => hd x (by simp [hx]))
      simp only [List.flatMap_cons, List.length_append, List.length_cons]; omega
  have h4 := h3 _ (parts_ok h)
  simp only [putE, List.length_append]; omega
theorem putE_isB {e : ApiEvent} (h : okE e) : isB (putE e) := isB_app (numL_isB _) (isB_flat fun d hd => bytD_isB (parts_ok h d hd))
noncomputable def nx (h : List Int) (e : ApiEvent) : List Int := dg (strOfNums (h ++ putE e))
theorem nx_ok {h : List Int} (hh : h.length = 32) {e : ApiEvent} (he : okE e) : (nx h e).length = 32 ∧ isB (nx h e) := by
  have := putE_len he
  obtain ⟨_, _, a, b⟩ := dg_eq (s := strOfNums (h ++ putE e)) (by rw [strOfNums_size, List.length_append]; omega)
  exact ⟨a, b⟩
theorem Link_eq {h : List Int} (hh : h.length = 32) {e : ApiEvent} (he : okE e) : sha_Link h (strOfNums (putE e)) = some (nx h e) ∧ ref02_Link h (strOfNums (putE e)) = some (nx h e) := by
  have hl := putE_len he
  obtain ⟨d, h1, h2, h3, h4, h5⟩ := link_both hh (a := strOfNums (putE e)) (by rw [strOfNums_size]; omega)
  rw [strOfNums_append] at h3
  have : nx h e = d := by unfold nx; rw [dg_def, h3]; rfl
  rw [this]
  exact ⟨h1, h2⟩
noncomputable def nextP (h : List Int) (e : ApiEvent) : List Int × Bool := if validE e then (nx h e, true) else (z32, false)
theorem Next_eq {h : List Int} (hh : h.length = 32) {e : ApiEvent} (he : okE e) : chain_Next h e = some (nextP h e) ∧ ref06_Next h e = some (nextP h e) := by
  unfold chain_Next ref06_Next nextP
  rw [event_Put_eq he, ref05_Put_eq he]
  unfold putR
  cases validE e with
  | false => exact ⟨rfl, rfl⟩
  | true =>
    simp only [if_true, Option.bind_some, Bool.not_true, Bool.false_eq_true, if_false, (Link_eq hh he).1, (Link_eq hh he).2, and_self]
def okL (l : List ApiEvent) : Prop := ∀ e ∈ l, okE e
def allV (l : List ApiEvent) : Bool := l.all validE
noncomputable def fin (h : List Int) (l : List ApiEvent) : List Int := l.foldl nx h
noncomputable def headP (h : List Int) (l : List ApiEvent) : List Int × Bool := if allV l then (fin h l, true) else (z32, false)
theorem fin_ok : ∀ {l : List ApiEvent} {h : List Int}, h.length = 32 → isB h → okL l → (fin h l).length = 32 ∧ isB (fin h l)
  | [], h, h1, h2, _ => ⟨h1, h2⟩
  | e :: r, h, h1, h2, hl => by
    obtain ⟨a, b⟩ := nx_ok h1 (hl e (by simp))
    exact fin_ok (l := r) a b (fun x hx => hl x (by simp [hx]))
noncomputable def headS (h : List Int) : List ApiEvent → (List Int × Bool) ⊕ List Int
  | [] => .inr h
  | e :: r => if validE e then headS (nx h e) r else .inl (z32, false)
theorem headS_eq : ∀ (l : List ApiEvent) (h : List Int), headS h l = if allV l then .inr (fin h l) else .inl (z32, false)
  | [], h => rfl
  | e :: r, h => by
    have := headS_eq r (nx h e)
    simp only [headS, allV, List.all_cons, fin, List.foldl_cons] at this ⊢
    rw [this]
    by_cases hv : validE e = true
    · simp [hv]
    · have hv' : validE e = false := by simpa using hv
      simp [hv']
theorem Head_eq {h : List Int} (hh : h.length = 32) {l : List ApiEvent} (hl : okL l) (hn : l.length ≤ 1000000) : chain_Head h l = some (headP h l) := by
  have := loopI l (by omega) (fun k i (s : List Int) => chain_Head.l0 l k i s) (fun r s => some (headS s r)) (fun r s => s.length = 32)
    (fun k s hd hI => by simp only [chain_Head.l0, hd, headS]; rfl)
    (fun k i x r s hi hlen hm hd hg hx hw hI ih => by
      have he := hl x hm
      simp only [chain_Head.l0, hd, if_true, hg, and_self, hx, (Next_eq hI he).1, Option.bind_some, nextP]
      cases hv : validE x with
      | false => simp [headS, hv]; rfl
      | true =>
        simp only [if_true, Bool.not_true, Bool.false_eq_true, if_false, hw]
        rw [ih _ (nx_ok hI he).1]
        simp [headS, hv]) h hh
  unfold chain_Head
  rw [show chain_Head.l0 l FU 0 h = _ from this, headS_eq]
  unfold headP
  cases allV l <;> rfl
/-! ### all inputs, and heads -/
noncomputable def pairsP (xs hd : List Int) : List ApiEvent → List (List Int × List Int) × Bool
  | [] => ([(xs, hd)], true)
  | e :: r => if validE e then ((xs, hd) :: (pairsP (hd ++ putE e) (nx hd e) r).1, (pairsP (hd ++ putE e) (nx hd e) r).2) else ([(xs, hd)], false)
theorem bothY_eq (H : List (List Int)) (S : List ByteArray) (s : ByteArray) (h : List Int) (h1 : H.length ≤ 100000) (h2 : S.length ≤ 100000) : chain_both.y1 (H, S) s h = some (H ++ [h], S ++ [s]) := by
  have hL := LIM_val
  have a1 : S.length + ([s] : List ByteArray).length ≤ LIM := by simp; omega
  have a2 : H.length + ([h] : List (List Int)).length ≤ LIM := by simp; omega
  simp only [chain_both.y1, a1, a2, if_true]
theorem each_l0 {l : List ApiEvent} (hl : okL l) (hn : l.length ≤ 10000) : ∀ (r : List ApiEvent) (i k : Nat) (hd xs : List Int) (H : List (List Int)) (S : List ByteArray), l.drop i = r → i + r.length = l.length → r.length < k → hd.length = 32 →
    H.length + r.length ≤ 50000 → S.length + r.length ≤ 50000 → ∃ t, chain_each_1.l0 chain_both.y1 l k (i : Int) hd (H, S) (strOfNums xs) true = some (.inl ((H ++ (pairsP xs hd r).1.map Prod.snd, S ++ (pairsP xs hd r).1.map (fun p => strOfNums p.1)), t, (pairsP xs hd r).2))
  | [], i, k, hd, xs, H, S, e1, e2, hk, h32, hH, hS => by
    obtain ⟨k, rfl⟩ : ∃ m, k = m + 1 := ⟨k - 1, by omega⟩
    simp only [List.length_nil, Nat.add_zero] at e2 hH hS
    have hi : ((i : Int) == (l.length : Int)) = true := by rw [e2]; simp
    refine ⟨strOfNums xs, ?_⟩
    simp only [chain_each_1.l0, bothY_eq H S _ _ (by omega) (by omega), Option.bind_some, hi, if_true, pairsP, List.map_cons, List.map_nil]
  | e :: r, i, k, hd, xs, H, S, e1, e2, hk, h32, hH, hS => by
    obtain ⟨k, rfl⟩ : ∃ m, k = m + 1 := ⟨k - 1, by omega⟩
    simp only [List.length_cons] at e2 hH hS hk
    have hlt : i < l.length := by omega
    have hi : ((i : Int) == (l.length : Int)) = false := by simp; omega
    have hg : 0 ≤ (i : Int) ∧ (i : Int) < (l.length : Int) := ⟨by omega, by omega⟩
    have hcons : l.drop i = l[i] :: l.drop (i + 1) := List.drop_eq_getElem_cons hlt
    rw [hcons] at e1
    simp only [List.cons.injEq] at e1
    have hx : gt l (i : Int) = e := by rw [gt_nat l i hlt]; exact e1.1
    have he : okE e := hl e (by rw [← e1.1]; exact List.getElem_mem _)
    have hpl := putE_len he
    have hL := LIM_val
    have hw : wi64 ((i : Int) + 1) = ((i + 1 : Nat) : Int) := by rw [wi64_id (by omega)]; omega
    have hq : (strOfNums hd).size + (strOfNums (putE e)).size ≤ LIM := by rw [strOfNums_size, strOfNums_size]; omega
    simp only [chain_each_1.l0, bothY_eq H S _ _ (by omega) (by omega), Option.bind_some, hi, Bool.false_eq_true, if_false, hg, and_self, if_true, hx, event_Put_eq he, putR]
    cases hv : validE e with
    | false =>
      refine ⟨strOfNums xs, ?_⟩
      simp only [Bool.false_eq_true, if_false, Bool.not_false, if_true, pairsP, hv, List.map_cons, List.map_nil]
    | true =>
      have hsz : (strOfNums (hd ++ putE e)).size ≤ 1000000000000 := by rw [strOfNums_size, List.length_append]; omega
      have hdg := (dg_eq hsz).1
      obtain ⟨t, ht⟩ := each_l0 hl hn r (i + 1) k (nx hd e) (hd ++ putE e) (H ++ [hd]) (S ++ [strOfNums xs]) e1.2 (by omega) (by omega) (nx_ok h32 he).1 (by simp; omega) (by simp; omega)
      refine ⟨t, ?_⟩
      simp only [if_true, Bool.not_true, Bool.false_eq_true, if_false, hq, strOfNums_append, hdg, Option.bind_some, hw]
      refine Eq.trans ht ?_
      simp only [pairsP, hv, if_true, List.map_cons, List.append_assoc, List.singleton_append]
def c0 : List Int := [99, 101, 110, 111, 116, 97, 112, 104]
noncomputable def hd0 : List Int := dg (strOfNums c0)
theorem c0_eq : (⟨#[99, 101, 110, 111, 116, 97, 112, 104]⟩ : ByteArray) = strOfNums c0 := rfl
theorem hd0_eq : sha_Of (strOfNums c0) = some hd0 ∧ ref02_Of (strOfNums c0) = some hd0 ∧ hd0.length = 32 ∧ isB hd0 := dg_eq (by rw [strOfNums_size]; decide)
noncomputable def inp (xs hd : List Int) : List ApiEvent → List (List Int)
  | [] => [xs]
  | e :: r => xs :: inp (hd ++ putE e) (nx hd e) r
noncomputable def hds (hd : List Int) : List ApiEvent → List (List Int)
  | [] => [hd]
  | e :: r => hd :: hds (nx hd e) r
theorem pairs_eq : ∀ (l : List ApiEvent) (xs hd : List Int), (pairsP xs hd l).2 = allV l ∧ (allV l = true → (pairsP xs hd l).1.map Prod.snd = hds hd l ∧ (pairsP xs hd l).1.map (fun p => strOfNums p.1) = (inp xs hd l).map strOfNums)
  | [], xs, hd => ⟨rfl, fun _ => ⟨rfl, rfl⟩⟩
  | e :: r, xs, hd => by
    obtain ⟨h1, h2⟩ := pairs_eq r (hd ++ putE e) (nx hd e)
    simp only [pairsP, allV, List.all_cons, inp, hds]
    cases hv : validE e with
    | false => simp
    | true =>
      simp only [if_true, Bool.true_and, List.map_cons]
      refine ⟨h1, fun h => ?_⟩
      obtain ⟨a, b⟩ := h2 h
      exact ⟨by rw [a], by rw [b]⟩
theorem both_eq {l : List ApiEvent} (hl : okL l) (hn : l.length ≤ 10000) : chain_both l = some (if allV l then ((inp c0 hd0 l).map strOfNums, hds hd0 l) else ([], [])) := by
  unfold chain_both chain_each chain_each_1
  have hF : FU = 4611686018427387904 := rfl
  obtain ⟨t, ht⟩ := each_l0 hl hn l 0 FU hd0 c0 [] [] rfl (by omega) (by omega) hd0_eq.2.2.1 (by simp; omega) (by simp; omega)
  have ht' : chain_each_1.l0 chain_both.y1 l FU 0 hd0 ([], []) (strOfNums c0) true = _ := ht
  simp only [Option.bind_some, c0_eq, hd0_eq.1, ht', List.nil_append]
  obtain ⟨h1, h2⟩ := pairs_eq l c0 hd0
  rw [h1]
  cases hv : allV l with
  | false => simp
  | true =>
    obtain ⟨a, b⟩ := h2 hv
    simp only [Bool.not_true, Bool.false_eq_true, if_false, if_true, a, b]
theorem Heads_eq {l : List ApiEvent} (hl : okL l) (hn : l.length ≤ 10000) : chain_Heads l = some (if allV l then hds hd0 l else []) := by
  unfold chain_Heads
  rw [both_eq hl hn]
  cases allV l <;> rfl
theorem Start_eq : chain_Start = some hd0 := by
  unfold chain_Start
  rw [c0_eq, hd0_eq.1]; rfl
/-! ### what heads are -/
theorem hds_len : ∀ (l : List ApiEvent) (h : List Int), (hds h l).length = l.length + 1
  | [], h => rfl
  | e :: r, h => by simp [hds, hds_len r]
theorem hds_get : ∀ (l : List ApiEvent) (h : List Int) (n : Nat), n ≤ l.length → (hds h l)[n]? = some (fin h (l.take n))
  | [], h, n, hn => by have : n = 0 := by simpa using hn
                       subst this; rfl
  | e :: r, h, 0, _ => rfl
  | e :: r, h, n + 1, hn => by
    have := hds_get r (nx h e) n (by simpa using hn)
    simpa [hds, fin] using this
theorem gt_some {α : Type} [Inhabited α] {xs : List α} {n : Nat} {v : α} (h : xs[n]? = some v) : gt xs (n : Int) = v := by simp [gt, List.getD_eq_getElem?_getD, h]
theorem fin_app (h : List Int) (a b : List ApiEvent) : fin h (a ++ b) = fin (fin h a) b := List.foldl_append
end Go.Cen

/- CHAIN: Collide, Few, the examples. -/
set_option linter.unusedVariables false
set_option linter.unusedSimpArgs false
set_option maxRecDepth 100000
namespace Go.Cen
/-! ### how many are looked at -/
def fewE (l : List ApiEvent) : Bool := (l.take 21).all (fun e => decide (e.Name.size ≤ 100)) && decide (l.length ≤ 20)
theorem few_l0 (l : List ApiEvent) : ∀ (d i k : Nat), d + i = 21 → i ≤ l.length → d < k → law06_Few.l0 l k (i : Int) = some (if ((l.drop i).take d).all (fun e => decide (e.Name.size ≤ 100)) = true then .inr () else .inl false) := by
  intro d
  induction d with
  | zero =>
    intro i k h1 h2 h3
    obtain ⟨k, rfl⟩ : ∃ m, k = m + 1 := ⟨k - 1, by omega⟩
    have hi : i = 21 := by omega
    subst hi
    by_cases h : (21 : Nat) < l.length
    · have hd : decide ((((21 : Nat)) : Int) < (l.length : Int)) = true := by simp; omega
      have : decide ((((21 : Nat)) : Int) ≤ 20) = false := by decide
      simp [law06_Few.l0, hd, this]
    · have hd : decide ((((21 : Nat)) : Int) < (l.length : Int)) = false := by simp; omega
      simp [law06_Few.l0, hd]
  | succ d ih =>
    intro i k h1 h2 h3
    obtain ⟨k, rfl⟩ : ∃ m, k = m + 1 := ⟨k - 1, by omega⟩
    by_cases h : i < l.length
    · have hd : decide ((i : Int) < (l.length : Int)) = true := by simp; omega
      have h20 : decide ((i : Int) ≤ 20) = true := by simp; omega
      have hg : 0 ≤ (i : Int) ∧ (i : Int) < (l.length : Int) := ⟨by omega, by omega⟩
      have hw : wi64 ((i : Int) + 1) = ((i + 1 : Nat) : Int) := by rw [wi64_id (by omega)]; omega
      have hcons : l.drop i = l[i] :: l.drop (i + 1) := List.drop_eq_getElem_cons h
      simp only [law06_Few.l0, hd, h20, if_true, Option.bind_some, hg, and_self, gt_nat l i h, hw]
      rw [ih (i + 1) k (by omega) (by omega) (by omega), hcons]
      simp only [List.take_succ_cons, List.all_cons]
      by_cases q : (l[i].Name.size : Int) > 100
      · have q' : ¬ l[i].Name.size ≤ 100 := by omega
        simp [q, q']
      · have q' : l[i].Name.size ≤ 100 := by omega
        simp [q, q']
    · have hd : decide ((i : Int) < (l.length : Int)) = false := by simp; omega
      have hz : l.drop i = [] := List.drop_eq_nil_iff.2 (by omega)
      simp only [law06_Few.l0, hd, hz]
      simp
theorem Few_eq (l : List ApiEvent) : law06_Few l = some (fewE l) := by
  have hF : FU = 4611686018427387904 := rfl
  have := few_l0 l 21 0 FU (by omega) (by omega) (by omega)
  unfold law06_Few fewE
  rw [show law06_Few.l0 l FU 0 = _ from this]
  simp only [List.drop_zero, Option.bind_some]
  cases (l.take 21).all (fun e => decide (e.Name.size ≤ 100)) with
  | false => rfl
  | true =>
    simp only [if_true, Bool.true_and, Option.some.injEq]
    by_cases h : l.length ≤ 20
    · have : (l.length : Int) ≤ 20 := by omega
      simp [h, this]
    · have : ¬ (l.length : Int) ≤ 20 := by omega
      simp [h, this]
def sumsOk (l : List ApiEvent) : Prop := ∀ e ∈ l, e.Sum.length = 32 ∧ isB e.Sum
theorem few_ok {l : List ApiEvent} (hs : sumsOk l) (h : fewE l = true) : okL l ∧ l.length ≤ 20 := by
  simp only [fewE, Bool.and_eq_true, decide_eq_true_eq] at h
  refine ⟨fun e he => ?_, h.2⟩
  have ht : l.take 21 = l := List.take_of_length_le (by omega)
  rw [ht] at h
  have := List.all_eq_true.1 h.1 e he
  simp only [decide_eq_true_eq] at this
  exact ⟨by omega, hs e he⟩
/-! ### from behind on -/
/-! ### the examples -/
theorem nil_okL : okL [] := fun e he => by cases he
end Go.Cen

/- BUNDLE: numbers in digits; an event as it is shown. -/
set_option linter.unusedVariables false
set_option linter.unusedSimpArgs false
set_option maxRecDepth 100000
namespace Go.Cen
/-! ### digits -/
def digL (n : Nat) : List Int := if h : n < 10 then [48 + (n : Int)] else digL (n / 10) ++ [48 + ((n % 10 : Nat) : Int)]
termination_by n
decreasing_by omega
theorem digL_lt {n : Nat} (h : n < 10) : digL n = [48 + (n : Int)] := by rw [digL, dif_pos h]
theorem digL_ge {n : Nat} (h : ¬ n < 10) : digL n = digL (n / 10) ++ [48 + ((n % 10 : Nat) : Int)] := by rw [digL, dif_neg h]
theorem digL_len : ∀ (k n : Nat), n < 10 ^ (k + 1) → 1 ≤ (digL n).length ∧ (digL n).length ≤ k + 1
  | 0, n, h => by rw [digL_lt (by omega)]; simp
  | k + 1, n, h => by
    by_cases c : n < 10
    · rw [digL_lt c]; simp
    · have h2 : n / 10 < 10 ^ (k + 1) := by
        rw [Nat.pow_succ 10 (k + 1)] at h
        omega
      obtain ⟨a, b⟩ := digL_len k (n / 10) h2
      rw [digL_ge c]
      simp only [List.length_append, List.length_cons, List.length_nil]
      omega
theorem ofNat_val {n : Nat} (h : n < 256) : ((UInt8.ofNat n).toNat : Int) = (n : Int) := by
  have : (UInt8.ofNat n).toNat = n % 256 := UInt8.toNat_ofNat'
  rw [this]; omega
theorem dec_digL (n : Nat) : (Go.Lib.decDigits n).map (fun b => (b.toNat : Int)) = digL n := by
  induction n using Nat.strongRecOn with
  | _ n ih =>
    by_cases c : n < 10
    · rw [digL_lt c, Go.Lib.decDigits, dif_pos c]
      simp only [List.map_cons, List.map_nil]
      rw [ofNat_val (by omega)]; simp
    · rw [digL_ge c, Go.Lib.decDigits, dif_neg c, List.map_append, ih _ (by omega)]
      simp only [List.map_cons, List.map_nil]
      rw [ofNat_val (by omega)]; simp
def itoL (a : Int) : List Int := if a < 0 then 45 :: digL a.natAbs else digL a.toNat
theorem itoL_len {a : Int} (h : -9223372036854775808 ≤ a ∧ a ≤ 9223372036854775807) : 1 ≤ (itoL a).length ∧ (itoL a).length ≤ 21 := by
  unfold itoL
  split
  · have := digL_len 19 a.natAbs (by omega)
    simp only [List.length_cons]; omega
  · have := digL_len 19 a.toNat (by omega)
    omega
theorem Itoa_eq {a : Int} (h : -9223372036854775808 ≤ a ∧ a ≤ 9223372036854775807) : strconv_Itoa a = some (strOfNums (itoL a)) := by
  unfold strconv_Itoa itoaS
  rw [if_pos h]
  simp only [Option.bind_some, Option.some.injEq]
  unfold itoL Go.Lib.itoa
  split
  · rw [← dec_digL, ← strOfNums_list]; rfl
  · rw [← dec_digL, ← strOfNums_list]
theorem wi64_range (x : Int) : -9223372036854775808 ≤ wi64 x ∧ wi64 x ≤ 9223372036854775807 := by rw [wi64_eq]; omega
end Go.Cen

/- BUNDLE: an event as it is shown: by the program, by the document. -/
set_option linter.unusedVariables false
set_option linter.unusedSimpArgs false
set_option maxRecDepth 100000
namespace Go.Cen
def showD : Dyn72 → List Int
  | .nil => []
  | .i94 a => itoL a
  | .i90 s => quoteL (byts s)
  | .i95 d => (textL d).take 8
def okS (d : Dyn72) : Prop := match d with | .nil => False | .i94 a => -9223372036854775808 ≤ a ∧ a ≤ 9223372036854775807 | .i90 s => s.size ≤ 100000 ∧ segsOk (byts s) = true | .i95 d => d.length = 32 ∧ isB d
theorem showD_len {d : Dyn72} (h : okS d) : (showD d).length ≤ 400002 := by
  cases d with
  | nil => simp [showD]
  | i94 a => have := itoL_len h; simp only [showD]; omega
  | i90 s =>
    have h1 := quoteL_len (byts_isB s)
    have h2 : s.size ≤ 100000 := h.1
    rw [byts_len] at h1
    simp only [showD]; omega
  | i95 d => simp only [showD, List.length_take]; omega
def sdL (d : Dyn72) : List Int := 32 :: showD d
theorem sp_eq : (⟨#[32]⟩ : ByteArray) = strOfNums [32] := rfl
theorem text_show_eq {s : ByteArray} (h : s.size ≤ 100000) (hs : segsOk (byts s) = true) : event_text_show s = some (strOfNums (quoteL (byts s))) := by
  unfold event_text_show
  have := quote_ok (byts_isB s) (by rw [byts_len]; omega) hs
  rw [strOfNums_byts] at this
  rw [this]; rfl
theorem sum_show_eq {d : List Int} (h : d.length = 32) (hB : isB d) : event_sum_show d = some (strOfNums ((textL d).take 8)) := by
  unfold event_sum_show
  rw [(text_both h hB).1]
  have hl := textL_length d
  simp only [Option.bind_some, strOfNums_size]
  rw [if_pos (by omega), sx_str]
  simp
theorem show_l0 (l : List Dyn72) (hl : ∀ d ∈ l, okS d) (hn : l.length ≤ 10) (xs : List Int) (hx : xs.length ≤ 100) : event_Show.l0 l FU (strOfNums xs) 0 = some (strOfNums (xs ++ l.flatMap sdL)) := by
  have hL := LIM_val
  have := loopI l (by omega) (fun k i (s : List Int) => event_Show.l0 l k (strOfNums s) i) (fun r s => some (strOfNums (s ++ r.flatMap sdL))) (fun r s => s.length + 400003 * r.length ≤ 10000000)
    (fun k s hd hI => by simp only [event_Show.l0, hd, List.flatMap_nil, List.append_nil]; rfl)
    (fun k i x r s hi hlen hm hd hg hx hw hI ih => by
      have hok := hl x hm
      have hb := showD_len hok
      simp only [List.length_cons] at hI
      simp only [event_Show.l0, hd, if_true, hg, and_self, hx, sp_eq]
      have step : event_Show.l0 l k (strOfNums (s ++ ([32] ++ showD x))) (((i + 1 : Nat)) : Int) = some (strOfNums (s ++ (x :: r).flatMap sdL)) := by
        rw [ih (s ++ ([32] ++ showD x)) (by simp only [List.length_append, List.length_cons, List.length_nil]; omega)]
        simp [sdL]
      have q1 : ([32] : List Int).length + (showD x).length ≤ LIM := by simp only [List.length_cons, List.length_nil]; omega
      have q2 : s.length + (([32] : List Int) ++ showD x).length ≤ LIM := by simp only [List.length_append, List.length_cons, List.length_nil]; omega
      cases x with
      | nil => exact hok.elim
      | i94 a =>
        simp only [showD] at q1 q2 step
        simp only [event_number_show, Itoa_eq hok, Option.bind_some, strOfNums_append, strOfNums_size, q1, q2, if_true, hw]
        exact step
      | i90 a =>
        simp only [showD] at q1 q2 step
        simp only [text_show_eq hok.1 hok.2, Option.bind_some, strOfNums_append, strOfNums_size, q1, q2, if_true, hw]
        exact step
      | i95 a =>
        simp only [showD] at q1 q2 step
        have h32 : a.length = 32 := hok.1
        simp only [h32, if_true, sum_show_eq h32 hok.2, Option.bind_some, strOfNums_append, strOfNums_size, q1, q2, if_true, hw]
        exact step) xs (by omega)
  exact this
def WORDS : List ByteArray := [(⟨#[99, 114, 101, 97, 116, 101]⟩ : ByteArray), (⟨#[97, 112, 112, 101, 110, 100]⟩ : ByteArray), (⟨#[115, 101, 97, 108]⟩ : ByteArray), (⟨#[101, 120, 116, 101, 110, 100]⟩ : ByteArray), (⟨#[104, 111, 108, 100]⟩ : ByteArray), (⟨#[114, 101, 108, 101, 97, 115, 101]⟩ : ByteArray), (⟨#[100, 101, 108, 101, 116, 101]⟩ : ByteArray), (⟨#[116, 105, 99, 107]⟩ : ByteArray)]
theorem words_eq : event_words = some WORDS := rfl
def wordL (k : Int) : List Int := byts (gt WORDS k)
theorem wordL_len : ∀ n < 8, (wordL ((n : Nat) : Int)).length ≤ 7 := by decide +kernel
def showE (e : ApiEvent) : List Int := wordL e.Kind ++ (partsE e).flatMap sdL
def showR (e : ApiEvent) : List Int := if validE e = true then showE e else [63]
theorem valid_okS {e : ApiEvent} (h : okE e) (hv : validE e = true) : ∀ d ∈ partsE e, okS d := by
  obtain ⟨hI, hT, hN⟩ := valid_nums h hv
  have nm : (e.Kind = 0 ∨ e.Kind = 4 ∨ e.Kind = 5) → segsOk (byts e.Name) = true := fun hk => by
    unfold validE at hv
    rw [if_pos hk] at hv
    simp only [Bool.and_eq_true] at hv
    exact valid_segs hv.2.1
  intro d hd
  unfold partsE at hd
  split at hd
  · rename_i hk
    simp only [List.mem_cons, List.not_mem_nil, or_false] at hd
    rcases hd with rfl | rfl
    · exact ⟨by omega, by omega⟩
    · exact ⟨h.1, nm hk⟩
  all_goals (repeat' split at hd)
  all_goals (simp only [List.mem_cons, List.not_mem_nil, or_false] at hd)
  all_goals (try (rcases hd with rfl | rfl | rfl | rfl))
  all_goals (try (rcases hd with rfl | rfl))
  all_goals (try subst hd)
  all_goals first | exact ⟨by omega, by omega⟩ | exact h.2
theorem sdsL_len {l : List Dyn72} (h : ∀ d ∈ l, okS d) : (l.flatMap sdL).length ≤ 400003 * l.length := by
  induction l with
  | nil => simp
  | cons d r ih =>
    have a := showD_len (h d (by simp))
    have b := ih (fun x hx => h x (by simp [hx]))
    simp only [List.flatMap_cons, sdL, List.length_append, List.length_cons] at b ⊢; omega
theorem wordL_len' {k : Int} (h : 0 ≤ k ∧ k ≤ 7) : (wordL k).length ≤ 7 := by
  obtain ⟨n, rfl⟩ := Int.eq_ofNat_of_zero_le h.1
  exact wordL_len n (by omega)
theorem showR_len {e : ApiEvent} (h : okE e) : (showR e).length ≤ 2000000 := by
  unfold showR
  split
  · rename_i hv
    have h1 := sdsL_len (valid_okS h hv)
    have h2 := parts_len e
    have h3 := wordL_len' (valid_kind hv)
    simp only [showE, List.length_append]; omega
  · simp
theorem Show_eq {e : ApiEvent} (h : okE e) : event_Show e = some (strOfNums (showR e)) := by
  unfold event_Show showR
  rw [event_Valid_eq h]
  cases hv : validE e with
  | false => rfl
  | true =>
    have hk := valid_kind hv
    have hw := wordL_len' hk
    simp only [Option.bind_some, Bool.not_true, Bool.false_eq_true, if_false, if_true, words_eq, parts_eq]
    rw [if_pos (by omega)]
    have := show_l0 (partsE e) (valid_okS h hv) (by have := parts_len e; omega) (wordL e.Kind) (by omega)
    have e1 : strOfNums (wordL e.Kind) = gt WORDS e.Kind := strOfNums_byts _
    rw [e1] at this
    rw [this]; rfl
end Go.Cen

/- CHAIN: the laws on heads. -/
set_option linter.unusedVariables false
set_option linter.unusedSimpArgs false
set_option maxRecDepth 100000
namespace Go.Cen
theorem okL_take {a : List ApiEvent} (ha : okL a) (n : Nat) : okL (a.take n) := fun e he => ha e (List.mem_of_mem_take he)
/-! ### two rows of one head -/
theorem Same_eq {a b : List ApiEvent} (h : a.length ≤ 100000) : ∃ r, ref05_Same a b = some r ∧ (r = true ↔ a = b) := by
  unfold ref05_Same
  by_cases hl : a.length = b.length
  · have hz : (((a.length : Nat) : Int) != (b.length : Int)) = false := by rw [hl]; simp
    rw [hz]
    have := loop_eq a b hl (by omega) eq_ApiEvent (fun k i => ref05_Same.l0 a b k i)
      (fun k hd => by simp only [ref05_Same.l0, hd]; rfl)
      (fun k i hi hd hg hg2 hw => by
        simp only [ref05_Same.l0, hd, if_true, hg, hg2, and_self, hw]
        cases eq_ApiEvent (gt a (i : Int)) (gt b (i : Int)) <;> simp)
    rw [show ref05_Same.l0 a b FU 0 = _ from this]
    have hz := zip_all_eq eq_ApiEvent eq_event_iff a b hl
    by_cases q : (a.zip b).all (fun p => eq_ApiEvent p.1 p.2) = true
    · rw [if_pos q]
      exact ⟨true, rfl, by simp [hz.1 q]⟩
    · rw [if_neg q]
      exact ⟨false, rfl, by simp; exact fun h => q (hz.2 h)⟩
  · have hz : (((a.length : Nat) : Int) != (b.length : Int)) = true := by simp; omega
    have : a ≠ b := fun h => hl (by rw [h])
    exact ⟨false, by simp [hz], by simp [this]⟩
end Go.Cen

/- BUNDLE: bytes: what is put, and what is read again. -/
set_option linter.unusedVariables false
set_option linter.unusedSimpArgs false
set_option maxRecDepth 100000
namespace Go.Cen
/-! ### texts of at most 400 bytes -/
theorem text4_at {xs r : List Int} {m : Nat} (hx : isB xs) (h : wire_GetNum (strOfNums xs) = some ((m : Int), strOfNums r, true)) (h1 : m ≤ 400) (h2 : m ≤ r.length) :
    wire_GetText (strOfNums xs) 400 = some (strOfNums (r.take m), strOfNums (r.drop m), true) ∧ ref04_GetText (strOfNums xs) 400 = some (strOfNums (r.take m), strOfNums (r.drop m), true) := by
  have c : ¬ ((m : Int) > (if (400 : Int) < (r.length : Int) then 400 else (r.length : Int))) := by split <;> omega
  have g1 : (0 : Int) ≤ 0 ∧ (0 : Int) ≤ (m : Int) ∧ (m : Int) ≤ (r.length : Int) := by omega
  have g2 : (0 : Int) ≤ (m : Int) ∧ (m : Int) ≤ (r.length : Int) ∧ (r.length : Int) ≤ (r.length : Int) := by omega
  have c3 : ¬ (m : Int) > (r.length : Int) := by omega
  have c4 : ¬ (m : Int) > 400 := by omega
  have e1 : sx (strOfNums r) 0 (m : Int) = strOfNums (r.take m) := by rw [sx_str]; simp
  have e2 : sx (strOfNums r) (m : Int) (r.length : Int) = strOfNums (r.drop m) := by rw [sx_str]; simp
  constructor
  · unfold wire_GetText wire_text; rw [h]
    simp only [Option.bind_some, Bool.not_true, Bool.false_eq_true, if_false, strOfNums_size, c, decide_false, g1, g2, and_self, if_true, wire_got_string_parts, e1, e2]
  · unfold ref04_GetText; rw [rnum_same hx, h]
    simp only [Option.bind_some, Bool.not_true, Bool.false_eq_true, if_false, strOfNums_size, c3, c4, decide_false, g1, g2, and_self, if_true, e1, e2]
theorem text4_cases {xs : List Int} (hx : isB xs) : (wire_GetText (strOfNums xs) 400 = some (⟨#[]⟩, ⟨#[]⟩, false) ∧ ref04_GetText (strOfNums xs) 400 = some (⟨#[]⟩, ⟨#[]⟩, false)) ∨
    ∃ (t r : List Int), t.length ≤ 400 ∧ isB t ∧ isB r ∧ xs = (numL (clampN (t.length : Int)) ++ t) ++ r ∧ wire_GetText (strOfNums xs) 400 = some (strOfNums t, strOfNums r, true) ∧ ref04_GetText (strOfNums xs) 400 = some (strOfNums t, strOfNums r, true) := by
  rcases wire_num_cases hx with h | ⟨n, r, h0, h1, hr, he, h⟩
  · left; constructor
    · unfold wire_GetText wire_text; rw [h]; rfl
    · unfold ref04_GetText; rw [rnum_same hx, h]; rfl
  · by_cases c : n > (if (400 : Int) < (r.length : Int) then 400 else (r.length : Int))
    · left; constructor
      · unfold wire_GetText wire_text; rw [h]
        simp only [Option.bind_some, Bool.not_true, Bool.false_eq_true, if_false, strOfNums_size, c, decide_true, if_true]
        rfl
      · unfold ref04_GetText; rw [rnum_same hx, h]
        have c2 : n > (r.length : Int) ∨ n > 400 := by split at c <;> omega
        simp only [Option.bind_some, Bool.not_true, Bool.false_eq_true, if_false, strOfNums_size]
        by_cases c3 : n > (r.length : Int)
        · simp [c3]
        · have c4 : n > 400 := c2.resolve_left c3
          simp [c3, c4]
    · right
      have hn1 : n ≤ 400 := by split at c <;> omega
      have hn2 : n ≤ (r.length : Int) := by split at c <;> omega
      obtain ⟨m, rfl⟩ := Int.eq_ofNat_of_zero_le h0
      have ht : (r.take m).length = m := by rw [List.length_take]; omega
      obtain ⟨a, b⟩ := text4_at hx h (by omega) (by omega)
      exact ⟨r.take m, r.drop m, by omega, isB_take hr m, isB_drop hr m, by rw [ht, List.append_assoc, List.take_append_drop]; exact he, a, b⟩
theorem gtext4 {t r : List Int} (h : t.length ≤ 400) (ht : isB t) (hr : isB r) : wire_GetText (strOfNums ((numL (clampN (t.length : Int)) ++ t) ++ r)) 400 = some (strOfNums t, strOfNums r, true) ∧
    ref04_GetText (strOfNums ((numL (clampN (t.length : Int)) ++ t) ++ r)) 400 = some (strOfNums t, strOfNums r, true) := by
  rw [List.append_assoc]
  have := text4_at (m := t.length) (isB_app (numL_isB _) (isB_app ht hr)) (gnum (by omega) (by omega) (isB_app ht hr)) h (by simp)
  simpa using this
/-! ### what is put -/
def recL (e : ApiEvent) : List Int := numL (clampN ((putE e).length : Int)) ++ putE e
def headL (f : Int) (h : List Int) (n : Nat) : List Int := [67, 69, 78, 79] ++ (numL (clampN f) ++ (h ++ numL (clampN (n : Int))))
def bunL (f : Int) (h : List Int) (l : List ApiEvent) : List Int := headL f h l.length ++ l.flatMap recL
def bunOk (f : Int) (l : List ApiEvent) : Bool := decide (0 ≤ f) && (decide (f ≤ 400) && (decide (l.length ≤ 400) && allV l))
def bunR (f : Int) (h : List Int) (l : List ApiEvent) : ByteArray × Bool := if bunOk f l = true then (strOfNums (bunL f h l), true) else (⟨#[]⟩, false)
theorem putE_len2 {e : ApiEvent} (h : okE e) (hv : validE e = true) : 2 ≤ (putE e).length ∧ (putE e).length ≤ 110 := by
  obtain ⟨t, e1, e2, e3⟩ := put_shape h hv
  rw [e1]; simp only [List.length_cons]; omega
theorem recL_len {e : ApiEvent} (h : okE e) (hv : validE e = true) : 3 ≤ (recL e).length ∧ (recL e).length ≤ 118 := by
  have a := putE_len2 h hv
  have b := clampN_len ((putE e).length : Int)
  have c := numL_pos (clampN ((putE e).length : Int))
  simp only [recL, List.length_append]; omega
theorem recL_isB {e : ApiEvent} (h : okE e) : isB (recL e) := isB_app (numL_isB _) (putE_isB h)
theorem recs_isB {l : List ApiEvent} (h : okL l) : isB (l.flatMap recL) := isB_flat fun e he => recL_isB (h e he)
theorem recs_len {l : List ApiEvent} (h : okL l) (hv : allV l = true) : (l.flatMap recL).length ≤ 118 * l.length := by
  induction l with
  | nil => simp
  | cons e r ih =>
    simp only [allV, List.all_cons, Bool.and_eq_true] at hv
    have a := recL_len (h e (by simp)) hv.1
    have b := ih (fun x hx => h x (by simp [hx])) hv.2
    simp only [List.flatMap_cons, List.length_append, List.length_cons]; omega
theorem headL_isB {f : Int} {h : List Int} {n : Nat} (hh : isB h) : isB (headL f h n) := by
  have c : isB [67, 69, 78, 79] := by intro x hx; simp at hx; omega
  exact isB_app c (isB_app (numL_isB _) (isB_app hh (numL_isB _)))
theorem bunL_isB {f : Int} {h : List Int} {l : List ApiEvent} (hh : isB h) (hl : okL l) : isB (bunL f h l) := isB_app (headL_isB hh) (recs_isB hl)
theorem headL_len (f : Int) {h : List Int} (n : Nat) (hh : h.length = 32) : (headL f h n).length ≤ 60 := by
  have a := clampN_len f
  have b := clampN_len (n : Int)
  simp only [headL, List.length_append, List.length_cons, List.length_nil]; omega
theorem cE_eq : (⟨#[67, 69, 78, 79]⟩ : ByteArray) = strOfNums [67, 69, 78, 79] := rfl
theorem wtext_rec {e : ApiEvent} (h : okE e) (hv : validE e = true) : wire_Text (strOfNums (putE e)) = some (strOfNums (recL e)) := by
  have := putE_len2 h hv
  rw [wire_Text_eq _ (by rw [strOfNums_size]; omega), strOfNums_size, byts_strOfNums (putE_isB h)]; rfl
theorem writeS_eq (fl : Bool) (buf xs : List Int) (hx : isB xs) (h : buf.length + xs.length ≤ LIM) : strings_Builder_WriteString fl buf (strOfNums xs) = some ((xs.length : Int), Dyn54.nil, true, buf ++ xs) := by
  simp only [strings_Builder_WriteString, copy_eq, Option.bind_some, byts_strOfNums hx, strOfNums_size]
  rw [if_pos h]
theorem bput_l0 {l : List ApiEvent} (hl : okL l) (hn : l.length ≤ 1000) (xs : List Int) (hx : xs.length ≤ 100) :
    bundle_Put.l0 l FU 0 true xs = some (if allV l = true then .inr (true, xs ++ l.flatMap recL) else .inl ((⟨#[]⟩ : ByteArray), false)) := by
  have hL := LIM_val
  have := loopI l (by omega) (fun k i (s : List Int) => bundle_Put.l0 l k i true s) (fun r s => some (if allV r = true then .inr (true, s ++ r.flatMap recL) else .inl ((⟨#[]⟩ : ByteArray), false))) (fun r s => s.length + 118 * r.length ≤ 1000000)
    (fun k s hd hI => by simp only [bundle_Put.l0, hd, List.flatMap_nil, List.append_nil]; rfl)
    (fun k i x r s hi hlen hm hd hg hx hw hI ih => by
      have hok := hl x hm
      simp only [List.length_cons] at hI
      simp only [bundle_Put.l0, hd, if_true, hg, and_self, hx, event_Put_eq hok, putR]
      cases hv : validE x with
      | false => simp [allV, hv]
      | true =>
        have hr := recL_len hok hv
        simp only [if_true, Option.bind_some, Bool.not_true, Bool.false_eq_true, if_false, wtext_rec hok hv, writeS_eq true s _ (recL_isB hok) (by omega), hw]
        rw [ih (s ++ recL x) (by rw [List.length_append]; omega)]
        simp [allV, hv]) xs (by omega)
  exact this
theorem Put_eq {f : Int} {h : List Int} {l : List ApiEvent} (hh : h.length = 32) (hB : isB h) (hl : okL l) (hn : l.length ≤ 1000) : bundle_Put f h l = some (bunR f h l) := by
  have hL := LIM_val
  unfold bundle_Put bunR bunOk
  by_cases c0 : f < 0
  · have d : ¬ 0 ≤ f := by omega
    simp [c0, d]
  · have d0 : decide (f < 0) = false := by simpa using c0
    have e0 : decide (0 ≤ f) = true := by simp; omega
    simp only [d0, Bool.false_eq_true, if_false, Option.bind_some, e0, Bool.true_and]
    by_cases c1 : (if (l.length : Int) > f then (l.length : Int) else f) > 400
    · have d1 : decide ((if (l.length : Int) > f then (l.length : Int) else f) > 400) = true := by simpa using c1
      have e1 : (decide (f ≤ 400) && (decide (l.length ≤ 400) && allV l)) = false := by
        by_cases q : f ≤ 400
        · have : ¬ l.length ≤ 400 := by split at c1 <;> omega
          simp [this]
        · simp [q]
      simp only [d1, if_true, e1, Bool.false_eq_true, if_false]
    · have d1 : decide ((if (l.length : Int) > f then (l.length : Int) else f) > 400) = false := by simpa using c1
      have q1 : f ≤ 400 := by split at c1 <;> omega
      have q2 : l.length ≤ 400 := by split at c1 <;> omega
      have a := clampN_len f
      have b := clampN_len (l.length : Int)
      have hhd := headL_len f l.length hh
      have e : ((([67, 69, 78, 79] : List Int) ++ numL (clampN f)) ++ h) ++ numL (clampN (l.length : Int)) = headL f h l.length := by simp [headL]
      simp only [d1, Bool.false_eq_true, if_false, wire_Num_eq, Option.bind_some, cE_eq, strOfNums_append, strOfNums_size, wire_Sum]
      rw [if_pos (by simp only [List.length_cons, List.length_nil]; omega), if_pos (by simp only [List.length_append, List.length_cons, List.length_nil]; omega), if_pos (by simp only [List.length_append, List.length_cons, List.length_nil]; omega), e,
        writeS_eq false [] _ (headL_isB hB) (by simp only [List.length_nil]; omega)]
      simp only [Option.bind_some, List.nil_append]
      rw [bput_l0 hl hn _ (by omega)]
      simp only [q1, q2, decide_true, Bool.true_and]
      cases hv : allV l with
      | false => simp
      | true =>
        simp only [if_true, Option.bind_some, strings_Builder_String]
        rw [if_pos ((bytesOk_iff _).2 (isB_app (headL_isB hB) (recs_isB hl)))]
        rfl
end Go.Cen

/- BUNDLE: what is read again. -/
set_option linter.unusedVariables false
set_option linter.unusedSimpArgs false
set_option maxRecDepth 100000
namespace Go.Cen
def cE : List Int := [67, 69, 78, 79]
theorem cE_isB : isB cE := by intro x hx; simp [cE] at hx; omega
theorem cut_eq {xs : List Int} (hx : isB xs) : strings_CutPrefix (strOfNums xs) (⟨#[67, 69, 78, 79]⟩ : ByteArray) = some (if xs.take 4 = cE then (strOfNums (xs.drop 4), true) else (strOfNums xs, false)) := by
  have h4 : (⟨#[67, 69, 78, 79]⟩ : ByteArray) = strOfNums cE := rfl
  have h4s : cE.length = 4 := rfl
  unfold strings_CutPrefix stringslite_CutPrefix stringslite_HasPrefix
  rw [h4]
  simp only [strOfNums_size, h4s]
  by_cases c : 4 ≤ xs.length
  · have d : decide ((xs.length : Int) ≥ ((4 : Nat) : Int)) = true := by simp; omega
    have g : (0 : Int) ≤ 0 ∧ (0 : Int) ≤ ((4 : Nat) : Int) ∧ ((4 : Nat) : Int) ≤ (xs.length : Int) := by omega
    have g2 : (0 : Int) ≤ ((4 : Nat) : Int) ∧ ((4 : Nat) : Int) ≤ (xs.length : Int) ∧ (xs.length : Int) ≤ (xs.length : Int) := by omega
    have e1 : sx (strOfNums xs) 0 ((4 : Nat) : Int) = strOfNums (xs.take 4) := by rw [sx_str]; simp
    have e2 : sx (strOfNums xs) ((4 : Nat) : Int) (xs.length : Int) = strOfNums (xs.drop 4) := by rw [sx_str]; simp
    simp only [d, if_true, g, g2, and_self, e1, e2, seq_str (isB_take hx 4) cE_isB, Option.bind_some]
    by_cases q : xs.take 4 = cE
    · simp [q]
    · simp [q]
  · have d : decide ((xs.length : Int) ≥ ((4 : Nat) : Int)) = false := by simp; omega
    have q : ¬ xs.take 4 = cE := fun e => by have := congrArg List.length e; rw [List.length_take, h4s] at this; omega
    simp only [d, Bool.false_eq_true, if_false, Option.bind_some, Bool.not_false, if_true]
    rw [if_neg q]
/-! ### events, one behind the other -/
theorem evs_any {f : Int} {h : List Int} {nn : Int} {N : Nat} (hN : N ≤ 400) : ∀ (m i k : Nat) (xs : List Int) (acc : List ApiEvent), i + m = N → m < k → isB xs → acc.length + m ≤ 1000000 →
    (∃ q, bundle_reader_events.l0 (N : Int) k (i : Int) f h acc (strOfNums xs) nn = some (.inl (false, q))) ∨
    ∃ (l : List ApiEvent) (r : List Int), l.length = m ∧ okL l ∧ allV l = true ∧ isB r ∧ xs = l.flatMap recL ++ r ∧ bundle_reader_events.l0 (N : Int) k (i : Int) f h acc (strOfNums xs) nn = some (.inr (f, h, acc ++ l, strOfNums r, nn))
  | 0, i, k, xs, acc, e, hk, hx, ha => by
    obtain ⟨k, rfl⟩ : ∃ q, k = q + 1 := ⟨k - 1, by omega⟩
    have d : decide ((i : Int) < (N : Int)) = false := by simp; omega
    exact .inr ⟨[], xs, rfl, nil_okL, rfl, hx, rfl, by simp only [bundle_reader_events.l0, d, Bool.false_eq_true, if_false, List.append_nil]⟩
  | m + 1, i, k, xs, acc, e, hk, hx, ha => by
    have hL := LIM_val
    obtain ⟨k, rfl⟩ : ∃ q, k = q + 1 := ⟨k - 1, by omega⟩
    have d : decide ((i : Int) < (N : Int)) = true := by simp; omega
    have hw : wi64 ((i : Int) + 1) = ((i + 1 : Nat) : Int) := by rw [wi64_id (by omega)]; omega
    have hnil : (⟨#[]⟩ : ByteArray) = strOfNums [] := rfl
    simp only [bundle_reader_events.l0, d, if_true]
    rcases text4_cases hx with ⟨ht, _⟩ | ⟨t, r, t1, tB, rB, te, ht, _⟩
    · left
      rw [ht]
      have : ∃ a b c, event_Get (strOfNums []) = some (a, b, c) := by
        rcases Get_any (xs := []) isB_nil (by simp) with h | ⟨_, _, _, _, _, _, _, h⟩
        · exact ⟨_, _, _, h⟩
        · exact ⟨_, _, _, h⟩
      obtain ⟨a, b, c, hg⟩ := this
      rw [hnil]
      simp only [Option.bind_some, hg, Bool.not_false, if_true]
      exact ⟨_, rfl⟩
    · rw [ht]
      simp only [Option.bind_some]
      rcases Get_any tB (by omega) with hg | ⟨v, r2, v1, v2, v3, r2B, hte, hg⟩
      · left; rw [hg]
        simp only [Option.bind_some, Bool.not_true, Bool.not_false, Bool.false_eq_true, if_false, if_true]
        exact ⟨_, rfl⟩
      · rw [hg]
        simp only [Option.bind_some, Bool.not_true, Bool.false_eq_true, if_false, seq_nil_str r2B]
        by_cases q : r2 = []
        · subst q
          have hl1 : acc.length + ([v] : List ApiEvent).length ≤ LIM := by simp only [List.length_cons, List.length_nil]; omega
          simp only [decide_true, Bool.not_true, Bool.false_eq_true, if_false, hl1, if_true, hw]
          rw [List.append_nil] at hte
          have hx2 : xs = recL v ++ r := by rw [te, hte]; rfl
          rcases evs_any (f := f) (h := h) (nn := nn) hN m (i + 1) k r (acc ++ [v]) (by omega) (by omega) rB (by simp only [List.length_append, List.length_cons, List.length_nil]; omega) with ih | ⟨l, r3, l1, l2, l3, l4, l5, l6⟩
          · exact .inl ih
          · right
            refine ⟨v :: l, r3, by simp [l1], ?_, by simp [allV, v3]; simpa [allV] using l3, l4, ?_, ?_⟩
            · intro x hx'
              rcases List.mem_cons.1 hx' with rfl | hx'
              · exact v1
              · exact l2 x hx'
            · rw [hx2, l5]; simp
            · rw [l6]; simp
        · left
          simp only [q, decide_false, Bool.not_false, if_true]
          exact ⟨_, rfl⟩
theorem evs_put {f : Int} {h : List Int} {nn : Int} {N : Nat} (hN : N ≤ 400) : ∀ (l : List ApiEvent) (i k : Nat) (r : List Int) (acc : List ApiEvent), i + l.length = N → l.length < k → isB r → r.length ≤ 1000 → okL l → allV l = true → acc.length + l.length ≤ 1000000 →
    bundle_reader_events.l0 (N : Int) k (i : Int) f h acc (strOfNums (l.flatMap recL ++ r)) nn = some (.inr (f, h, acc ++ l, strOfNums r, nn)) ∧
    ref11_Get.l0 (N : Int) k (strOfNums (l.flatMap recL ++ r)) (i : Int) f h acc = some (.inr (f, h, acc ++ l))
  | [], i, k, r, acc, e, hk, hr, hrl, hl, hv, ha => by
    obtain ⟨k, rfl⟩ : ∃ q, k = q + 1 := ⟨k - 1, by omega⟩
    simp only [List.length_nil] at e
    have d : decide ((i : Int) < (N : Int)) = false := by simp; omega
    simp only [bundle_reader_events.l0, ref11_Get.l0, d, Bool.false_eq_true, if_false, List.append_nil, List.flatMap_nil, List.nil_append, and_self]
  | v :: l, i, k, r, acc, e, hk, hr, hrl, hl, hv, ha => by
    have hL := LIM_val
    obtain ⟨k, rfl⟩ : ∃ q, k = q + 1 := ⟨k - 1, by omega⟩
    simp only [List.length_cons] at e hk ha
    simp only [allV, List.all_cons, Bool.and_eq_true] at hv
    have hv1 := hl v (by simp)
    have hl2 : okL l := fun x hx => hl x (by simp [hx])
    have d : decide ((i : Int) < (N : Int)) = true := by simp; omega
    have hw : wi64 ((i : Int) + 1) = ((i + 1 : Nat) : Int) := by rw [wi64_id (by omega)]; omega
    have hlen := putE_len2 hv1 hv.1
    have hrest : isB (l.flatMap recL ++ r) := isB_app (recs_isB hl2) hr
    have hb : (v :: l).flatMap recL ++ r = (numL (clampN ((putE v).length : Int)) ++ putE v) ++ (l.flatMap recL ++ r) := by simp [recL]
    obtain ⟨g1, g2⟩ := gtext4 (t := putE v) (by omega) (putE_isB hv1) hrest
    have g3 := Get_put hv1 (by have := valid_name hv.1; omega) hv.1 isB_nil
    have g4 := rGet_put hv1 (by have := valid_name hv.1; omega) hv.1 isB_nil (by simp)
    rw [List.append_nil] at g3 g4
    have hl1 : acc.length + ([v] : List ApiEvent).length ≤ LIM := by simp only [List.length_cons, List.length_nil]; omega
    obtain ⟨i1, i2⟩ := evs_put (f := f) (h := h) (nn := nn) hN l (i + 1) k r (acc ++ [v]) (by omega) (by omega) hr hrl hl2 hv.2 (by simp only [List.length_append, List.length_cons, List.length_nil]; omega)
    rw [hb]
    constructor
    · simp only [bundle_reader_events.l0, d, if_true, g1, Option.bind_some, g3, Bool.not_true, Bool.false_eq_true, if_false, seq_nil_str isB_nil, decide_true, hl1, hw]
      rw [i1]; simp
    · simp only [ref11_Get.l0, d, if_true, g2, Option.bind_some, g4, Bool.not_true, Bool.false_eq_true, if_false, seq_nil_str isB_nil, decide_true, hl1, hw]
      rw [i2]; simp
end Go.Cen

/- BUNDLE: what any bytes are. -/
set_option linter.unusedVariables false
set_option linter.unusedSimpArgs false
set_option maxRecDepth 100000
namespace Go.Cen
theorem four {xs : List Int} (c : xs.take 4 = cE) : xs = cE ++ xs.drop 4 := by rw [← c, List.take_append_drop]
theorem bunOk_mk {f : Int} {l : List ApiEvent} (h0 : 0 ≤ f) (h1 : f ≤ 400) (h2 : l.length ≤ 400) (h3 : allV l = true) : bunOk f l = true := by simp [bunOk, h0, h1, h2, h3]
theorem bunOk_un {f : Int} {l : List ApiEvent} (h : bunOk f l = true) : 0 ≤ f ∧ f ≤ 400 ∧ l.length ≤ 400 ∧ allV l = true := by
  simp only [bunOk, Bool.and_eq_true, decide_eq_true_eq] at h; exact h
theorem bunL_eq (f : Int) (h : List Int) (l : List ApiEvent) (r : List Int) : cE ++ (numL (clampN f) ++ (h ++ (numL (clampN (l.length : Int)) ++ (l.flatMap recL ++ r)))) = bunL f h l ++ r := by simp [bunL, headL, cE]
theorem bGet_any {xs : List Int} (hx : isB xs) (hn : xs.length ≤ 1000000) : bundle_Get (strOfNums xs) = some (0, z32, [], false) ∨
    ∃ (f : Int) (h : List Int) (l : List ApiEvent), h.length = 32 ∧ isB h ∧ okL l ∧ bunOk f l = true ∧ xs = bunL f h l ∧ bundle_Get (strOfNums xs) = some (f, h, l, true) := by
  obtain ⟨A, hA⟩ : ∃ A, bundle_Get (strOfNums xs) = A := ⟨_, rfl⟩
  rw [hA]
  unfold bundle_Get bundle_reader_begins at hA
  rw [cut_eq hx] at hA
  by_cases c : ¬ xs.take 4 = cE
  · left; rw [if_neg c] at hA; exact hA.symm
  have c : xs.take 4 = cE := Decidable.not_not.1 c
  have ex := four c
  rw [if_pos c] at hA
  simp only [Option.bind_some, Bool.not_true, Bool.false_eq_true, if_false] at hA
  unfold bundle_reader_from at hA
  have hy : isB (xs.drop 4) := isB_drop hx 4
  rcases wire_num_cases hy with h | ⟨f, r1, f0, f1, r1B, e1, h⟩
  · left; rw [h] at hA; exact hA.symm
  rw [h] at hA
  simp only [Option.bind_some, if_true] at hA
  by_cases c1 : ¬ f ≤ 400
  · left
    simp only [c1, decide_false, Bool.not_false, if_true, Option.bind_some] at hA
    exact hA.symm
  have c1 : f ≤ 400 := Decidable.not_not.1 c1
  simp only [c1, decide_true, Bool.not_true, Bool.false_eq_true, if_false] at hA
  unfold bundle_reader_head at hA
  rcases sum_cases r1B with ⟨a, b, h2⟩ | ⟨hd, r2, d1, d2, r2B, e2, h2⟩
  · left; rw [h2] at hA; exact hA.symm
  rw [h2] at hA
  simp only [Option.bind_some, Bool.not_true, Bool.false_eq_true, if_false] at hA
  unfold bundle_reader_count at hA
  rcases wire_num_cases r2B with h3 | ⟨n, r3, n0, n1, r3B, e3, h3⟩
  · left; rw [h3] at hA; exact hA.symm
  rw [h3] at hA
  simp only [Option.bind_some, if_true] at hA
  by_cases c2 : ¬ n ≤ 400
  · left
    simp only [c2, decide_false, Bool.not_false, if_true, Option.bind_some] at hA
    exact hA.symm
  have c2 : n ≤ 400 := Decidable.not_not.1 c2
  simp only [c2, decide_true, Bool.not_true, Bool.false_eq_true, if_false] at hA
  unfold bundle_reader_events at hA
  obtain ⟨N, rfl⟩ := Int.eq_ofNat_of_zero_le n0
  have hF : FU = 4611686018427387904 := rfl
  rcases evs_any (f := f) (h := hd) (nn := (N : Int)) (N := N) (by omega) N 0 FU r3 [] (by omega) (by omega) r3B (by simp only [List.length_nil]; omega) with ⟨q, h4⟩ | ⟨l, r4, l1, l2, l3, l4, l5, h4⟩
  · left
    rw [show bundle_reader_events.l0 (N : Int) FU 0 f hd [] (strOfNums r3) (N : Int) = _ from h4] at hA
    exact hA.symm
  rw [show bundle_reader_events.l0 (N : Int) FU 0 f hd [] (strOfNums r3) (N : Int) = _ from h4] at hA
  simp only [Option.bind_some, seq_nil_str l4, List.nil_append] at hA
  by_cases q : r4 = []
  · right
    subst q
    simp only [decide_true, Bool.not_true, Bool.false_eq_true, if_false, Option.bind_some] at hA
    refine ⟨f, hd, l, d1, d2, l2, bunOk_mk f0 c1 (by omega) l3, ?_, hA.symm⟩
    rw [ex, e1, e2, e3, l5, ← l1, bunL_eq, List.append_nil]
  · left
    simp only [q, decide_false, Bool.not_false, if_true, Option.bind_some] at hA
    exact hA.symm
theorem bGet_put {f : Int} {h : List Int} {l : List ApiEvent} (hh : h.length = 32) (hB : isB h) (hl : okL l) (hv : bunOk f l = true) : bundle_Get (strOfNums (bunL f h l)) = some (f, h, l, true) := by
  obtain ⟨f0, f1, l1, l2⟩ := bunOk_un hv
  have hF : FU = 4611686018427387904 := rfl
  have hr := recs_isB hl
  have e : bunL f h l = cE ++ (numL (clampN f) ++ (h ++ (numL (clampN (l.length : Int)) ++ l.flatMap recL))) := by
    have := bunL_eq f h l []
    simpa using this.symm
  have b1 : isB (numL (clampN (l.length : Int)) ++ l.flatMap recL) := isB_app (numL_isB _) hr
  have b2 := isB_app hB b1
  have b3 := isB_app (numL_isB (clampN f)) b2
  unfold bundle_Get bundle_reader_begins
  rw [cut_eq (bunL_isB hB hl), if_pos (by rw [e]; rfl)]
  have ed : (bunL f h l).drop 4 = numL (clampN f) ++ (h ++ (numL (clampN (l.length : Int)) ++ l.flatMap recL)) := by rw [e]; rfl
  obtain ⟨g4, _⟩ := evs_put (f := f) (h := h) (nn := (l.length : Int)) (N := l.length) l1 l 0 FU [] [] (by omega) (by omega) isB_nil (by simp) hl l2 (by simp only [List.length_nil]; omega)
  rw [List.append_nil] at g4
  have c2 : (l.length : Int) ≤ 400 := by omega
  simp only [Option.bind_some, Bool.not_true, Bool.false_eq_true, if_false, ed, bundle_reader_from, gnum f0 (by omega) b2, if_true, f1, decide_true, bundle_reader_head, gsum hh hB b1, bundle_reader_count, gnum (show (0 : Int) ≤ (l.length : Int) by omega) (by omega) hr, c2, bundle_reader_events]
  rw [show bundle_reader_events.l0 (l.length : Int) FU 0 f h [] (strOfNums (l.flatMap recL)) (l.length : Int) = _ from g4]
  simp only [Option.bind_some, seq_nil_str isB_nil, decide_true, Bool.not_true, Bool.false_eq_true, if_false, List.nil_append]
end Go.Cen

/- BUNDLE: what any bytes are, by the document. -/
set_option linter.unusedVariables false
set_option linter.unusedSimpArgs false
set_option maxRecDepth 100000
namespace Go.Cen
/-! ### alike -/
theorem sEqual_eq {a b : List ApiEvent} (h : a.length ≤ 100000) : ∃ r, slices_Equal_apiEvent a b = some r ∧ (r = true ↔ a = b) := by
  unfold slices_Equal_apiEvent
  by_cases hl : a.length = b.length
  · have hz : (((a.length : Nat) : Int) != (b.length : Int)) = false := by rw [hl]; simp
    rw [hz]
    have := loop_eq a b hl (by omega) eq_ApiEvent (fun k i => slices_Equal_apiEvent.l0 a b k i)
      (fun k hd => by simp only [slices_Equal_apiEvent.l0, hd]; rfl)
      (fun k i hi hd hg hg2 hw => by
        simp only [slices_Equal_apiEvent.l0, hd, if_true, hg, hg2, and_self, hw]
        cases eq_ApiEvent (gt a (i : Int)) (gt b (i : Int)) <;> simp)
    rw [show slices_Equal_apiEvent.l0 a b FU 0 = _ from this]
    have hz := zip_all_eq eq_ApiEvent eq_event_iff a b hl
    by_cases q : (a.zip b).all (fun p => eq_ApiEvent p.1 p.2) = true
    · rw [if_pos q]
      exact ⟨true, rfl, by simp [hz.1 q]⟩
    · rw [if_neg q]
      exact ⟨false, rfl, by simp; exact fun h => q (hz.2 h)⟩
  · have hz : (((a.length : Nat) : Int) != (b.length : Int)) = true := by simp; omega
    have : a ≠ b := fun h => hl (by rw [h])
    exact ⟨false, by simp [hz], by simp [this]⟩
theorem bSame_eq {f g : Int} {h k : List Int} {a b : List ApiEvent} (hn : a.length ≤ 100000) : ∃ r, bundle_Same f h a g k b = some r ∧ ref11_Same f h a g k b = some r ∧ (r = true ↔ f = g ∧ h = k ∧ a = b) := by
  obtain ⟨r, r1, r2⟩ := sEqual_eq (a := a) (b := b) hn
  obtain ⟨s, s1, s2⟩ := Same_eq (a := a) (b := b) hn
  have hrs : r = s := by rw [Bool.eq_iff_iff, r2, s2]
  subst hrs
  unfold bundle_Same ref11_Same
  rw [r1, s1]
  by_cases c : f = g
  · have d : (f == g) = true := by simp [c]
    simp only [d, if_true]
    by_cases c2 : h = k
    · have d2 : eqA h k = true := (eqA_iff h k).2 c2
      simp only [d2, if_true, Option.bind_some]
      exact ⟨r, rfl, rfl, by rw [r2]; simp [c, c2]⟩
    · have d2 : eqA h k = false := by rw [← Bool.not_eq_true, eqA_iff]; exact c2
      simp only [d2, Bool.false_eq_true, if_false, Option.bind_some]
      exact ⟨false, rfl, rfl, by simp [c2]⟩
  · have d : (f == g) = false := by simp [c]
    simp only [d, Bool.false_eq_true, if_false, Option.bind_some]
    exact ⟨false, rfl, rfl, by simp [c]⟩
theorem bSame_self {f : Int} {h : List Int} {a : List ApiEvent} (hn : a.length ≤ 100000) : bundle_Same f h a f h a = some true ∧ ref11_Same f h a f h a = some true := by
  obtain ⟨r, h1, h2, h3⟩ := bSame_eq (f := f) (g := f) (h := h) (k := h) (a := a) (b := a) hn
  have : r = true := h3.2 ⟨rfl, rfl, rfl⟩
  subst this
  exact ⟨h1, h2⟩
/-! ### handed out -/
noncomputable def expP (l : List ApiEvent) (a b : Int) : Int × List Int × List ApiEvent × Bool :=
  if 0 ≤ a ∧ a ≤ b ∧ b ≤ (l.length : Int) ∧ allV l = true then (a, fin hd0 (l.take a.toNat), sub l a b, true) else (0, z32, [], false)
theorem Export_eq {l : List ApiEvent} (hl : okL l) (hn : l.length ≤ 400) (a b : Int) : bundle_Export l a b = some (expP l a b) := by
  have hL := LIM_val
  unfold bundle_Export expP
  by_cases c0 : a < 0
  · have : ¬ 0 ≤ a := by omega
    simp only [c0, decide_true, if_true, Option.bind_some, this, false_and, if_false]
    rfl
  · have d0 : decide (a < 0) = false := by simpa using c0
    have p0 : 0 ≤ a := by omega
    by_cases c1 : b < a
    · have : ¬ a ≤ b := by omega
      simp only [d0, Bool.false_eq_true, if_false, c1, decide_true, if_true, Option.bind_some, this, false_and, and_false]
      rfl
    · have d1 : decide (b < a) = false := by simpa using c1
      have p1 : a ≤ b := by omega
      by_cases c2 : b > (l.length : Int)
      · have : ¬ b ≤ (l.length : Int) := by omega
        simp only [d0, d1, Bool.false_eq_true, if_false, c2, decide_true, if_true, Option.bind_some, this, false_and, and_false]
        rfl
      · have d2 : decide (b > (l.length : Int)) = false := by simpa using c2
        have d3 : decide ((l.length : Int) > 400) = false := by simp; omega
        have p2 : b ≤ (l.length : Int) := by omega
        simp only [d0, d1, d2, d3, Bool.false_eq_true, if_false, Option.bind_some, Heads_eq hl (show l.length ≤ 10000 by omega), p0, p1, p2, true_and]
        cases hv : allV l with
        | false => simp; rfl
        | true =>
          have hlen := hds_len l hd0
          have z : (((hds hd0 l).length : Int) == 0) = false := by rw [hlen]; simp; omega
          obtain ⟨n, rfl⟩ := Int.eq_ofNat_of_zero_le p0
          have hg : gt (hds hd0 l) (n : Int) = fin hd0 (l.take n) := gt_some (hds_get l hd0 n (by omega))
          have hs : (sub l (n : Int) b).length ≤ l.length := by simp only [sub, List.length_drop, List.length_take]; omega
          simp only [if_true, z, Bool.false_eq_true, if_false, hg, Int.toNat_natCast]
          rw [if_pos (by rw [hlen]; omega)]
          unfold slices_Clone_apiEvent
          rw [if_pos (by simp only [List.length_nil]; omega)]
          rfl
end Go.Cen
