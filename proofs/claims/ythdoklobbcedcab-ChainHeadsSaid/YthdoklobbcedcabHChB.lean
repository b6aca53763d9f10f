/- CHAIN: Collide, Few, the examples. -/
import Derived.Test.YthdoklobbcedcabHChA
import Derived.Test.YthdoklobbcedcabHEvC
import Derived.Test.YthdoklobbcedcabHRevA
set_option linter.unusedVariables false
set_option linter.unusedSimpArgs false
set_option maxRecDepth 100000
namespace Go.Cen
/-! ### how many are looked at -/
def fewE (l : List ApiEvent) : Bool := (l.take 21).all (fun e => decide (e.Name.size ≤ 100)) && decide (l.length ≤ 20)
theorem few_l0 (l : List ApiEvent) : ∀ (d i k : Nat), d + i = 21 → i ≤ l.length → d < k → law06_Few.l0 l k (i : Int) = some (if ((l.drop i).take d).all (fun e => decide (e.Name.size ≤ 100)) = true then .inr () else .inl false) := by
  intro d
  induction d with
  | zero =>
    intro i k h1 h2 h3
    obtain ⟨k, rfl⟩ : ∃ m, k = m + 1 := ⟨k - 1, by omega⟩
    have hi : i = 21 := by omega
    subst hi
    by_cases h : (21 : Nat) < l.length
    · have hd : decide ((((21 : Nat)) : Int) < (l.length : Int)) = true := by simp; omega
      have : decide ((((21 : Nat)) : Int) ≤ 20) = false := by decide
      simp [law06_Few.l0, hd, this]
    · have hd : decide ((((21 : Nat)) : Int) < (l.length : Int)) = false := by simp; omega
      simp [law06_Few.l0, hd]
  | succ d ih =>
    intro i k h1 h2 h3
    obtain ⟨k, rfl⟩ : ∃ m, k = m + 1 := ⟨k - 1, by omega⟩
    by_cases h : i < l.length
    · have hd : decide ((i : Int) < (l.length : Int)) = true := by simp; omega
      have h20 : decide ((i : Int) ≤ 20) = true := by simp; omega
      have hg : 0 ≤ (i : Int) ∧ (i : Int) < (l.length : Int) := ⟨by omega, by omega⟩
      have hw : wi64 ((i : Int) + 1) = ((i + 1 : Nat) : Int) := by rw [wi64_id (by omega)]; omega
      have hcons : l.drop i = l[i] :: l.drop (i + 1) := List.drop_eq_getElem_cons h
      simp only [law06_Few.l0, hd, h20, if_true, Option.bind_some, hg, and_self, gt_nat l i h, hw]
      rw [ih (i + 1) k (by omega) (by omega) (by omega), hcons]
      simp only [List.take_succ_cons, List.all_cons]
      by_cases q : (l[i].Name.size : Int) > 100
      · have q' : ¬ l[i].Name.size ≤ 100 := by omega
        simp [q, q']
      · have q' : l[i].Name.size ≤ 100 := by omega
        simp [q, q']
    · have hd : decide ((i : Int) < (l.length : Int)) = false := by simp; omega
      have hz : l.drop i = [] := List.drop_eq_nil_iff.2 (by omega)
      simp only [law06_Few.l0, hd, hz]
      simp
theorem Few_eq (l : List ApiEvent) : law06_Few l = some (fewE l) := by
  have hF : FU = 4611686018427387904 := rfl
  have := few_l0 l 21 0 FU (by omega) (by omega) (by omega)
  unfold law06_Few fewE
  rw [show law06_Few.l0 l FU 0 = _ from this]
  simp only [List.drop_zero, Option.bind_some]
  cases (l.take 21).all (fun e => decide (e.Name.size ≤ 100)) with
  | false => rfl
  | true =>
    simp only [if_true, Bool.true_and, Option.some.injEq]
    by_cases h : l.length ≤ 20
    · have : (l.length : Int) ≤ 20 := by omega
      simp [h, this]
    · have : ¬ (l.length : Int) ≤ 20 := by omega
      simp [h, this]
def sumsOk (l : List ApiEvent) : Prop := ∀ e ∈ l, e.Sum.length = 32 ∧ isB e.Sum
theorem few_ok {l : List ApiEvent} (hs : sumsOk l) (h : fewE l = true) : okL l ∧ l.length ≤ 20 := by
  simp only [fewE, Bool.and_eq_true, decide_eq_true_eq] at h
  refine ⟨fun e he => ?_, h.2⟩
  have ht : l.take 21 = l := List.take_of_length_le (by omega)
  rw [ht] at h
  have := List.all_eq_true.1 h.1 e he
  simp only [decide_eq_true_eq] at this
  exact ⟨by omega, hs e he⟩
/-! ### from behind on -/
def colS : List (List Int) → List (List Int) → ByteArray × ByteArray × Bool
  | x :: r, y :: s => if x = y then colS r s else (strOfNums x, strOfNums y, true)
  | _, _ => (⟨#[]⟩, ⟨#[]⟩, false)
theorem col_l0 : ∀ (r s x y : List (List Int)) (i k : Nat), (∀ v ∈ x, isB v) → (∀ v ∈ y, isB v) → x.length ≤ 100000 → y.length ≤ 100000 → x.drop i = r → y.drop i = s → i ≤ x.length → i ≤ y.length → r.length < k →
    chain_Collide.l0 k (x.map strOfNums) (y.map strOfNums) (i : Int) = some (.inl (colS r s))
  | [], s, x, y, i, k, hx, hy, nx_, ny, e1, e2, h1, h2, hk => by
    obtain ⟨k, rfl⟩ : ∃ m, k = m + 1 := ⟨k - 1, by omega⟩
    have hl : i = x.length := by have := List.drop_eq_nil_iff.1 e1; omega
    have : ((i : Int) == ((x.map strOfNums).length : Int)) = true := by rw [List.length_map, hl]; simp
    simp [chain_Collide.l0, hl, colS]
  | u :: r, [], x, y, i, k, hx, hy, nx_, ny, e1, e2, h1, h2, hk => by
    obtain ⟨k, rfl⟩ : ∃ m, k = m + 1 := ⟨k - 1, by omega⟩
    have hl : i = y.length := by have := List.drop_eq_nil_iff.1 e2; omega
    have hd : (if ((i : Int) == ((x.map strOfNums).length : Int)) = true then some true else some ((i : Int) == ((y.map strOfNums).length : Int))) = some true := by
      rw [List.length_map, List.length_map, hl]; simp
    simp only [chain_Collide.l0, hd, Option.bind_some, if_true, colS]
  | u :: r, v :: s, x, y, i, k, hx, hy, nx_, ny, e1, e2, h1, h2, hk => by
    obtain ⟨k, rfl⟩ : ∃ m, k = m + 1 := ⟨k - 1, by omega⟩
    have lx : i < x.length := by have := congrArg List.length e1; simp at this; omega
    have ly : i < y.length := by have := congrArg List.length e2; simp at this; omega
    rw [List.drop_eq_getElem_cons lx] at e1
    rw [List.drop_eq_getElem_cons ly] at e2
    simp only [List.cons.injEq] at e1 e2
    have gx : gt (x.map strOfNums) (i : Int) = strOfNums u := by rw [gt_nat _ i (by simpa using lx)]; simp [e1.1]
    have gy : gt (y.map strOfNums) (i : Int) = strOfNums v := by rw [gt_nat _ i (by simpa using ly)]; simp [e2.1]
    have hd : (if ((i : Int) == ((x.map strOfNums).length : Int)) = true then some true else some ((i : Int) == ((y.map strOfNums).length : Int))) = some false := by
      have a : ((i : Int) == ((x.map strOfNums).length : Int)) = false := by rw [List.length_map]; simp; omega
      have b : ((i : Int) == ((y.map strOfNums).length : Int)) = false := by rw [List.length_map]; simp; omega
      simp only [a, b, Bool.false_eq_true, if_false]
    have g1 : 0 ≤ (i : Int) ∧ (i : Int) < ((x.map strOfNums).length : Int) := by rw [List.length_map]; omega
    have g2 : 0 ≤ (i : Int) ∧ (i : Int) < ((y.map strOfNums).length : Int) := by rw [List.length_map]; omega
    have hw : wi64 ((i : Int) + 1) = ((i + 1 : Nat) : Int) := by rw [wi64_id (by omega)]; omega
    have hu : isB u := by rw [← e1.1]; exact hx _ (List.getElem_mem _)
    have hv : isB v := by rw [← e2.1]; exact hy _ (List.getElem_mem _)
    simp only [chain_Collide.l0, hd, Option.bind_some, Bool.false_eq_true, if_false, g1, g2, and_self, if_true, gx, gy, seq_str hu hv, hw, decide_eq_true_eq, colS]
    by_cases q : u = v
    · rw [if_pos q, if_pos q]
      exact col_l0 r s x y (i + 1) k hx hy nx_ ny e1.2 e2.2 (by omega) (by omega) (by simp at hk; omega)
    · rw [if_neg q, if_neg q]
theorem c0_isB : isB c0 := by
  have h : ∀ x ∈ c0, 0 ≤ x ∧ x < 256 := by decide
  exact h
theorem inp_isB : ∀ {l : List ApiEvent} {xs h : List Int}, okL l → isB xs → isB h → h.length = 32 → ∀ v ∈ inp xs h l, isB v
  | [], xs, h, _, hx, _, _, v, hv => by simp [inp] at hv; rw [hv]; exact hx
  | e :: r, xs, h, hl, hx, hh, h32, v, hv => by
    have he := hl e (by simp)
    obtain ⟨a, b⟩ := nx_ok h32 he
    simp only [inp, List.mem_cons] at hv
    rcases hv with rfl | hv
    · exact hx
    · exact inp_isB (l := r) (fun x hx => hl x (by simp [hx])) (isB_app hh (putE_isB he)) b a v hv
theorem hds_last (l : List ApiEvent) (h : List Int) : gt (hds h l) (l.length : Int) = fin h l := by
  have := hds_get l h l.length (Nat.le_refl _)
  rw [List.take_length] at this
  exact gt_some this
noncomputable def colP (a b : List ApiEvent) : ByteArray × ByteArray × Bool := if (allV a && (allV b && eqA (fin hd0 a) (fin hd0 b))) = true then colS (inp c0 hd0 a).reverse (inp c0 hd0 b).reverse else (⟨#[]⟩, ⟨#[]⟩, false)
theorem Collide_eq {a b : List ApiEvent} (ha : okL a) (hb : okL b) (na : a.length ≤ 10000) (nb : b.length ≤ 10000) : chain_Collide a b = some (colP a b) := by
  have hF : FU = 4611686018427387904 := rfl
  unfold chain_Collide colP
  rw [both_eq ha na, both_eq hb nb]
  cases va : allV a with
  | false => simp
  | true =>
    cases vb : allV b with
    | false => simp
    | true =>
      have z1 : (((hds hd0 a).length : Int) == 0) = false := by rw [hds_len]; simp; omega
      have z2 : (((hds hd0 b).length : Int) == 0) = false := by rw [hds_len]; simp; omega
      have g1 : 0 ≤ (a.length : Int) ∧ (a.length : Int) < ((hds hd0 a).length : Int) := by rw [hds_len]; omega
      have g2 : 0 ≤ (b.length : Int) ∧ (b.length : Int) < ((hds hd0 b).length : Int) := by rw [hds_len]; omega
      simp only [if_true, Option.bind_some, z1, z2, Bool.false_eq_true, if_false, g1, g2, and_self, hds_last, Bool.true_and]
      cases eqA (fin hd0 a) (fin hd0 b) with
      | false => simp
      | true =>
        simp only [Bool.not_true, Bool.false_eq_true, if_false]
        rw [rev_eq _ (by rw [List.length_map, inp_len]; omega), rev_eq _ (by rw [List.length_map, inp_len]; omega)]
        simp only [Option.bind_some, ← List.map_reverse]
        have ia := inp_isB ha c0_isB hd0_eq.2.2.2 hd0_eq.2.2.1
        have ib := inp_isB hb c0_isB hd0_eq.2.2.2 hd0_eq.2.2.1
        have := col_l0 (inp c0 hd0 a).reverse (inp c0 hd0 b).reverse (inp c0 hd0 a).reverse (inp c0 hd0 b).reverse 0 FU (fun v hv => ia v (by simpa using hv)) (fun v hv => ib v (by simpa using hv)) (by rw [List.length_reverse, inp_len]; omega) (by rw [List.length_reverse, inp_len]; omega) rfl rfl (by omega) (by omega) (by rw [List.length_reverse, inp_len]; omega)
        rw [show chain_Collide.l0 FU _ _ 0 = _ from this]
        simp
theorem Input_eq {l : List ApiEvent} (hl : okL l) (hn : l.length ≤ 10000) (i : Int) : chain_Input l i = some (if allV l = true ∧ 0 ≤ i ∧ i < (l.length : Int) + 1 then strOfNums (gt (inp c0 hd0 l) i) else ⟨#[]⟩) := by
  unfold chain_Input
  rw [both_eq hl hn]
  cases va : allV l with
  | false =>
    simp only [Bool.false_eq_true, if_false, Option.bind_some, List.length_nil, false_and]
    by_cases h : i < 0
    · simp [h]
    · have : i ≥ 0 := by omega
      simp [h, this]
  | true =>
    have hlen : (((inp c0 hd0 l).map strOfNums).length : Int) = (l.length : Int) + 1 := by rw [List.length_map, inp_len]; omega
    simp only [if_true, Option.bind_some, hlen, true_and]
    by_cases h : i < 0
    · have : ¬ (0 ≤ i ∧ i < (l.length : Int) + 1) := by omega
      simp [h, this]
    · by_cases h2 : i ≥ (l.length : Int) + 1
      · have : ¬ (0 ≤ i ∧ i < (l.length : Int) + 1) := by omega
        simp [h, h2, this]
      · have hg : 0 ≤ i ∧ i < (l.length : Int) + 1 := by omega
        have h2' : decide (i ≥ (l.length : Int) + 1) = false := by simpa using h2
        have h' : decide (i < 0) = false := by simpa using h
        obtain ⟨n, rfl⟩ := Int.eq_ofNat_of_zero_le hg.1
        simp only [h', h2', Bool.false_eq_true, if_false, Option.bind_some, hg, and_self, if_true]
        have hlt : n < (inp c0 hd0 l).length := by rw [inp_len]; omega
        rw [gt_nat _ n (by simpa using hlt), gt_nat _ n hlt]
        simp
/-! ### the examples -/
def ev1 : ApiEvent := ⟨7, 0, ⟨#[]⟩, 1, 0, List.replicate 32 0⟩
theorem ev1_ok : okE ev1 := ⟨by decide, rfl, by intro x hx; have := List.eq_of_mem_replicate hx; omega⟩
theorem ev1_v : validE ev1 = true := by decide +kernel
theorem ev1_put : putE ev1 = [7, 1] := by decide +kernel
theorem ev1_all : allV [ev1] = true := by simp [allV, ev1_v]
theorem ev1_okL : okL [ev1] := fun e he => by rw [List.mem_singleton.1 he]; exact ev1_ok
theorem nil_okL : okL [] := fun e he => by cases he
theorem ne_start : eqA (nx hd0 ev1) hd0 = false := by
  have h : ((ofK (strOfNums c0)).bind fun x => (ofK (strOfNums (x ++ [7, 1]))).bind fun y => some (eqA y x)) = some false := by decide +kernel
  obtain ⟨x, h1, h⟩ := bindS h
  obtain ⟨y, h2, h⟩ := bindS h
  rw [← of_ofK] at h1 h2
  have e1 : hd0 = x := by rw [hd0_eq.1] at h1; exact someS h1
  have e2 : nx hd0 ev1 = y := by
    unfold nx
    rw [ev1_put, e1, dg_def, h2]; rfl
  rw [e2, e1]
  exact someS h
theorem works06 : law06_works = some true := by
  have hne := ne_start
  have h32 := hd0_eq.2.2.1
  have hz : ((⟨7, 0, ⟨#[]⟩, 1, 0, List.replicate 32 0⟩ : ApiEvent)) = ev1 := rfl
  have hd1 : hds hd0 [ev1] = [hd0, nx hd0 ev1] := rfl
  have hi0 : gt (inp c0 hd0 [ev1]) 0 = c0 := rfl
  have hi1 : gt (inp c0 hd0 [ev1]) 1 = hd0 ++ putE ev1 := rfl
  have hcol : colP [] [ev1] = (⟨#[]⟩, ⟨#[]⟩, false) := by
    unfold colP
    have : fin hd0 [ev1] = nx hd0 ev1 := rfl
    rw [this, eqA_symm, show fin hd0 [] = hd0 from rfl, hne]
    simp
  have hs : (strOfNums (hd0 ++ putE ev1)).size = 34 := by rw [strOfNums_size, List.length_append, h32, ev1_put]; rfl
  have hfin : fin hd0 [ev1] = nx hd0 ev1 := rfl
  unfold law06_works
  simp only [hz, Start_eq, Option.bind_some, (Next_eq h32 ev1_ok).1, nextP, ev1_v, if_true, Head_eq h32 ev1_okL (by decide), headP, ev1_all, Heads_eq ev1_okL (by decide), Collide_eq nil_okL ev1_okL (by decide) (by decide), hcol, c0_eq, hd0_eq.1, eqA_refl, hfin, Input_eq ev1_okL (by decide), hd1, hi0, hi1]
  simp [gt1, gt, eqA_refl, seq_refl, hs, hne, h32, ev1_put, strOfNums_size]
end Go.Cen
