/- BUNDLE: what is shown; the examples. -/
import Derived.Test.YtlojedndicppeaaDoorBChA
set_option linter.unusedVariables false
set_option linter.unusedSimpArgs false
set_option maxRecDepth 100000
namespace Go.Cen
/-! ### what is shown -/
def lineL (f : Int) (i : Nat) (e : ApiEvent) : List Int := itoL (wi64 (f + (i : Int))) ++ ([58, 32] ++ showR e)
def linesL (f : Int) : Nat → List ApiEvent → List ByteArray
  | _, [] => []
  | i, e :: r => strOfNums (lineL f i e) :: linesL f (i + 1) r
theorem c58_eq : (⟨#[58, 32]⟩ : ByteArray) = strOfNums [58, 32] := rfl
theorem bshow_l0 {f : Int} {l : List ApiEvent} (hl : okL l) (hn : l.length ≤ 10000) : ∀ (r : List ApiEvent) (i k : Nat) (acc : List ByteArray), l.drop i = r → i + r.length = l.length → r.length < k → acc.length ≤ i →
    bundle_Show.l0 l f k acc (i : Int) = some (acc ++ linesL f i r)
  | [], i, k, acc, e, e2, hk, ha => by
    obtain ⟨k, rfl⟩ : ∃ q, k = q + 1 := ⟨k - 1, by omega⟩
    simp only [List.length_nil] at e2
    have d : decide ((i : Int) < (l.length : Int)) = false := by simp; omega
    simp only [bundle_Show.l0, d, Bool.false_eq_true, if_false, linesL, List.append_nil]
  | v :: r, i, k, acc, e, e2, hk, ha => by
    have hL := LIM_val
    obtain ⟨k, rfl⟩ : ∃ q, k = q + 1 := ⟨k - 1, by omega⟩
    simp only [List.length_cons] at e2 hk
    have hi : i < l.length := by omega
    have d : decide ((i : Int) < (l.length : Int)) = true := by simp; omega
    have hw : wi64 ((i : Int) + 1) = ((i + 1 : Nat) : Int) := by rw [wi64_id (by omega)]; omega
    rw [List.drop_eq_getElem_cons hi] at e
    simp only [List.cons.injEq] at e
    have hv1 : okE v := by rw [← e.1]; exact hl _ (List.getElem_mem hi)
    have hg : gt l (i : Int) = v := by rw [gt_nat l i hi]; exact e.1
    have a := itoL_len (wi64_range (f + (i : Int)))
    have b := showR_len hv1
    simp only [bundle_Show.l0, d, if_true, hg, Itoa_eq (wi64_range (f + (i : Int))), Option.bind_some, c58_eq, strOfNums_size, strOfNums_append, Show_eq hv1, hw]
    rw [if_pos (by omega), if_pos (by simp only [List.length_cons, List.length_nil]; omega), if_pos (by simp only [List.length_append, List.length_cons, List.length_nil]; omega), if_pos (by simp only [List.length_append, List.length_cons, List.length_nil]; omega)]
    rw [bshow_l0 hl hn r (i + 1) k _ e.2 (by omega) (by omega) (by simp only [List.length_append, List.length_cons, List.length_nil]; omega)]
    simp [linesL, lineL]
theorem bShow_eq {f : Int} {h : List Int} {l : List ApiEvent} (hl : okL l) (hn : l.length ≤ 10000) : bundle_Show f h l = some (linesL f 0 l) := by
  have hF : FU = 4611686018427387904 := rfl
  unfold bundle_Show
  rw [show bundle_Show.l0 l f FU [] 0 = _ from bshow_l0 hl hn l 0 FU [] rfl (by omega) (by omega) (by simp)]
  simp
/-! ### one behind the other -/
theorem recL_inj {a b : ApiEvent} (ha : okE a) (hb : okE b) (va : validE a = true) (vb : validE b = true) {r s : List Int} (h : recL a ++ r = recL b ++ s) : a = b ∧ r = s := by
  have l1 := putE_len2 ha va
  have l2 := putE_len2 hb vb
  simp only [recL, List.append_assoc] at h
  obtain ⟨e1, e2⟩ := num_inj (by omega) (by omega) h
  obtain ⟨e3, e4⟩ := List.append_inj e2 (by omega)
  exact ⟨(putE_inj ha hb va vb (r := []) (s := []) (by simp [e3])).1, e4⟩
theorem recs_inj : ∀ {a b : List ApiEvent}, okL a → okL b → allV a = true → allV b = true → a.length = b.length → ∀ {r s : List Int}, a.flatMap recL ++ r = b.flatMap recL ++ s → a = b ∧ r = s
  | [], [], _, _, _, _, _, r, s, h => ⟨rfl, by simpa using h⟩
  | [], _ :: _, _, _, _, _, hl, r, s, h => by simp at hl
  | _ :: _, [], _, _, _, _, hl, r, s, h => by simp at hl
  | x :: a, y :: b, ha, hb, va, vb, hl, r, s, h => by
    simp only [allV, List.all_cons, Bool.and_eq_true] at va vb
    simp only [List.flatMap_cons, List.append_assoc] at h
    obtain ⟨e1, e2⟩ := recL_inj (ha x (by simp)) (hb y (by simp)) va.1 vb.1 h
    obtain ⟨e3, e4⟩ := recs_inj (fun z hz => ha z (by simp [hz])) (fun z hz => hb z (by simp [hz])) va.2 vb.2 (by simpa using hl) e2
    exact ⟨by rw [e1, e3], e4⟩
theorem bunL_inj {f g : Int} {h k : List Int} {a b : List ApiEvent} (hh : h.length = 32) (hk : k.length = 32) (ha : okL a) (hb : okL b) (va : bunOk f a = true) (vb : bunOk g b = true) {r s : List Int} (e : bunL f h a ++ r = bunL g k b ++ s) : f = g ∧ h = k ∧ a = b ∧ r = s := by
  obtain ⟨a0, a1, a2, a3⟩ := bunOk_un va
  obtain ⟨b0, b1, b2, b3⟩ := bunOk_un vb
  rw [← bunL_eq, ← bunL_eq] at e
  have e := List.append_cancel_left e
  obtain ⟨e1, e2⟩ := num_inj (by omega) (by omega) e
  obtain ⟨e3, e4⟩ := List.append_inj e2 (by omega)
  obtain ⟨e5, e6⟩ := num_inj (by omega) (by omega) e4
  obtain ⟨e7, e8⟩ := recs_inj ha hb a3 b3 (by omega) e6
  exact ⟨e1, e3, e7, e8⟩
/-! ### the examples -/
def ev3 : ApiEvent := ⟨7, 0, ⟨#[]⟩, 3, 0, List.replicate 32 0⟩
theorem ev3_ok : okE ev3 := ⟨by decide, rfl, by intro x hx; have := List.eq_of_mem_replicate hx; omega⟩
theorem ev3_v : validE ev3 = true := by decide +kernel
theorem ev3_all : allV [ev3] = true := by simp [allV, ev3_v]
theorem ev3_okL : okL [ev3] := fun e he => by rw [List.mem_singleton.1 he]; exact ev3_ok
theorem ev3_bun : bunOk 0 [ev3] = true := bunOk_mk (by decide) (by decide) (by decide) ev3_all
theorem nil_bun : bunOk 0 [] = true := rfl
theorem num0 : numL (clampN 0) = [0] := num1 (by decide) (by decide)
theorem ev3_line : lineL 7 0 ev3 = [55, 58, 32, 116, 105, 99, 107, 32, 51] := by
  have h7 : itoL (wi64 (7 + ((0 : Nat) : Int))) = [55] := by
    have : wi64 (7 + ((0 : Nat) : Int)) = 7 := rfl
    rw [this]; unfold itoL; rw [if_neg (by decide)]; exact digL_lt (n := 7) (by decide)
  have h3 : itoL 3 = [51] := by unfold itoL; rw [if_neg (by decide)]; exact digL_lt (n := 3) (by decide)
  have hw : wordL 7 = [116, 105, 99, 107] := by decide +kernel
  have hp : partsE ev3 = [.i94 3] := rfl
  have hs : showR ev3 = [116, 105, 99, 107, 32, 51] := by
    unfold showR
    rw [if_pos ev3_v]
    unfold showE
    rw [hp, show ev3.Kind = 7 from rfl, hw]
    simp [sdL, showD, h3]
  unfold lineL
  rw [h7, hs]; rfl
theorem works11 : law11_works = some true := by
  have hL := LIM_val
  have h32 := hd0_eq.2.2.1
  have hB := hd0_eq.2.2.2
  have hz : ((⟨7, 0, ⟨#[]⟩, 3, 0, List.replicate 32 0⟩ : ApiEvent)) = ev3 := rfl
  have hexp : bundle_Export [ev3] 0 1 = some (0, hd0, [ev3], true) := by
    rw [Export_eq ev3_okL (by decide)]
    unfold expP
    rw [if_pos ⟨by decide, by decide, by decide, ev3_all⟩]; rfl
  have hput : bundle_Put 0 hd0 [ev3] = some (strOfNums (bunL 0 hd0 [ev3]), true) := by
    rw [Put_eq h32 hB ev3_okL (by decide), bunR, if_pos ev3_bun]
  have hput0 : bundle_Put 0 hd0 [] = some (strOfNums (bunL 0 hd0 []), true) := by
    rw [Put_eq h32 hB nil_okL (by decide), bunR, if_pos nil_bun]
  have hget := bGet_put h32 hB ev3_okL ev3_bun
  have e0 : bunL 0 hd0 [] = cE ++ ([0] ++ (hd0 ++ [0])) := by
    have e := bunL_eq 0 hd0 ([] : List ApiEvent) []
    simp only [List.append_nil] at e
    rw [← e, num0]
    simp only [List.length_nil, List.flatMap_nil, List.append_nil, Int.natCast_zero, num0]
  have l0 : (bunL 0 hd0 []).length = 38 := by rw [e0]; simp [h32, cE]
  have hb1 := bunL_isB (f := 0) hB ev3_okL
  have hb0 := bunL_isB (f := 0) (l := []) hB nil_okL
  have hlen : (bunL 0 hd0 [ev3]).length ≤ 200 := by
    have a := headL_len 0 [ev3].length h32
    have b := recs_len ev3_okL ev3_all
    have c : [ev3].length = 1 := rfl
    simp only [bunL, List.length_append]
    omega
  have hno : ∃ a b c, bundle_Get (strOfNums (bunL 0 hd0 [ev3] ++ [120])) = some (a, b, c, false) := by
    have hx : isB (bunL 0 hd0 [ev3] ++ [120]) := isB_app hb1 (by intro x hx; simp at hx; omega)
    rcases bGet_any hx (by simp only [List.length_append, List.length_cons, List.length_nil]; omega) with h | ⟨f, k, l, k1, k2, k3, k4, k5, _⟩
    · exact ⟨_, _, _, h⟩
    · exfalso
      have := bunL_inj h32 k1 ev3_okL k3 ev3_bun k4 (r := [120]) (s := []) (by rw [List.append_nil]; exact k5)
      exact absurd this.2.2.2 (by simp)
  obtain ⟨na, nb, nc, hno⟩ := hno
  have hshow : bundle_Show 7 (List.replicate 32 (0 : Int)) [ev3] = some [strOfNums [55, 58, 32, 116, 105, 99, 107, 32, 51]] := by
    rw [bShow_eq ev3_okL (by decide)]
    simp only [linesL, ev3_line]
  have hc0 : (⟨#[67, 69, 78, 79]⟩ : ByteArray) ++ (strOfNums ([0] : List Int)) = strOfNums [67, 69, 78, 79, 0] := by rw [cE_eq, strOfNums_append]; rfl
  have hx5 : sx (strOfNums (bunL 0 hd0 [])) 0 5 = strOfNums [67, 69, 78, 79, 0] := by
    rw [sx_str, e0]; rfl
  have hline : (⟨#[55, 58, 32, 116, 105, 99, 107, 32, 51]⟩ : ByteArray) = strOfNums [55, 58, 32, 116, 105, 99, 107, 32, 51] := rfl
  have c120 : (⟨#[120]⟩ : ByteArray) = strOfNums [120] := rfl
  have hs := (bSame_self (f := 0) (h := hd0) (a := [ev3]) (by decide)).1
  have g0 : gt [ev3] 0 = ev3 := rfl
  have g1 : gt [strOfNums [55, 58, 32, 116, 105, 99, 107, 32, 51]] 0 = strOfNums [55, 58, 32, 116, 105, 99, 107, 32, 51] := rfl
  unfold law11_works
  simp only [hz, hexp, Option.bind_some, hput, hget, Start_eq, hput0, c120, strOfNums_append, hno, hshow, strOfNums_size, l0, hc0, hx5, hs, g0, g1, event_eta, hline, seq_refl]
  rw [if_pos (by simp only [List.length_cons, List.length_nil]; omega)]
  have hsz : (⟨#[67, 69, 78, 79]⟩ : ByteArray).size = 4 := rfl
  simp
  omega
end Go.Cen

/- BUNDLE: the laws Back, Lines, Whole, Joins. -/
set_option linter.unusedVariables false
set_option linter.unusedSimpArgs false
set_option maxRecDepth 100000
namespace Go.Cen
theorem expP_yes {l : List ApiEvent} {a b : Int} (h0 : 0 ≤ a) (h1 : a ≤ b) (h2 : b ≤ (l.length : Int)) (h3 : allV l = true) : expP l a b = (a, fin hd0 (l.take a.toNat), sub l a b, true) := by unfold expP; rw [if_pos ⟨h0, h1, h2, h3⟩]
theorem expP_no {l : List ApiEvent} (a b : Int) (h3 : allV l = false) : expP l a b = (0, z32, [], false) := by unfold expP; rw [if_neg (by rw [h3]; simp)]
theorem allV_take {l : List ApiEvent} (n : Nat) (h : allV l = true) : allV (l.take n) = true := by
  unfold allV at h ⊢
  exact List.all_eq_true.2 fun e he => List.all_eq_true.1 h e (List.mem_of_mem_take he)
theorem allV_drop {l : List ApiEvent} (n : Nat) (h : allV l = true) : allV (l.drop n) = true := by
  unfold allV at h ⊢
  exact List.all_eq_true.2 fun e he => List.all_eq_true.1 h e (List.mem_of_mem_drop he)
theorem sub_app (l : List ApiEvent) {a b c : Nat} (h1 : a ≤ b) (h2 : b ≤ c) (h3 : c ≤ l.length) : sub l (a : Int) (b : Int) ++ sub l (b : Int) (c : Int) = sub l (a : Int) (c : Int) := by
  simp only [sub, Int.toNat_natCast]
  have e : c - a = (b - a) + (c - b) := by omega
  rw [e, List.take_add, List.drop_drop]
  congr 3
  omega
theorem take_sub (l : List ApiEvent) {a b : Nat} (h1 : a ≤ b) : l.take a ++ sub l (a : Int) (b : Int) = l.take b := by
  simp only [sub, Int.toNat_natCast]
  have e : b = a + (b - a) := by omega
  conv => rhs; rw [e, List.take_add]
theorem law11_BundleJoins_eq (l : List ApiEvent) (a b c : Int) (hs : sumsOk l) : law11_BundleJoins l a b c = some true := by
  have hL := LIM_val
  unfold law11_BundleJoins
  rw [works11]
  simp only [Option.bind_some, Bool.not_true, Bool.false_eq_true, if_false, Few_eq]
  cases f1 : fewE l with
  | false => rfl
  | true =>
    obtain ⟨o1, n1⟩ := few_ok hs f1
    by_cases h0 : a < 0
    · simp [h0]
    · by_cases h1 : b < a
      · simp [h0, h1]
      · by_cases h2 : c < b
        · simp [h0, h1, h2]
        · by_cases h3 : c > (l.length : Int)
          · simp [h0, h1, h2, h3]
          · have d0 : decide (a < 0) = false := by simpa using h0
            have d1 : decide (b < a) = false := by simpa using h1
            have d2 : decide (c < b) = false := by simpa using h2
            have d3 : decide (c > (l.length : Int)) = false := by simpa using h3
            simp only [Bool.not_true, Bool.false_eq_true, if_false, d0, d1, d2, d3, Option.bind_some, Export_eq o1 (show l.length ≤ 400 by omega)]
            cases v : allV l with
            | false => rw [expP_no _ _ v, expP_no _ _ v, expP_no _ _ v]; rfl
            | true =>
              obtain ⟨a, rfl⟩ := Int.eq_ofNat_of_zero_le (show 0 ≤ a by omega)
              obtain ⟨b, rfl⟩ := Int.eq_ofNat_of_zero_le (show 0 ≤ b by omega)
              obtain ⟨c, rfl⟩ := Int.eq_ofNat_of_zero_le (show 0 ≤ c by omega)
              rw [expP_yes (by omega) (by omega) (by omega) v, expP_yes (by omega) (by omega) (by omega) v, expP_yes (by omega) (by omega) (by omega) v]
              have oa := okL_take o1 a
              obtain ⟨x1, x2⟩ := fin_ok hd0_eq.2.2.1 hd0_eq.2.2.2 oa
              have os : okL (sub l (a : Int) (b : Int)) := fun e he => o1 e (List.mem_of_mem_drop (List.mem_of_mem_take he))
              have vs : allV (sub l (a : Int) (b : Int)) = true := allV_take _ (allV_drop _ v)
              have ls : (sub l (a : Int) (b : Int)).length ≤ 20 := by simp only [sub, List.length_take, List.length_drop]; omega
              have ls2 : (sub l (b : Int) (c : Int)).length ≤ 20 := by simp only [sub, List.length_take, List.length_drop]; omega
              have ef : fin (fin hd0 (l.take a)) (sub l (a : Int) (b : Int)) = fin hd0 (l.take b) := by rw [← fin_app, take_sub l (by omega)]
              have ej : (([] : List ApiEvent) ++ sub l (a : Int) (b : Int)) ++ sub l (b : Int) (c : Int) = sub l (a : Int) (c : Int) := by rw [List.nil_append]; exact sub_app l (by omega) (by omega) (by omega)
              obtain ⟨r, r1, r2⟩ := Same_eq (a := sub l (a : Int) (c : Int)) (b := sub l (a : Int) (c : Int)) (by simp only [sub, List.length_take, List.length_drop]; omega)
              have hr : r = true := r2.2 rfl
              subst hr
              simp only [Option.bind_some, Bool.not_true, Bool.false_eq_true, if_false, Int.toNat_natCast, Head_eq x1 os (show (sub l (a : Int) (b : Int)).length ≤ 1000000 by omega), headP, vs, if_true, ef, eqA_refl, ej, r1]
              rw [if_pos (by simp only [List.length_nil]; omega), if_pos (by simp only [List.length_append, List.length_nil]; omega)]
              simp
end Go.Cen
