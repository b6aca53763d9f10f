/- The stable sort of up to 64 positions. -/
import Derived.Test.YthdoklobbcedcaaSortD
set_option linter.unusedVariables false
set_option linter.unusedSimpArgs false
namespace Go.Cen
variable {cmp : Int → Int → Option Int} {lt : Int → Int → Prop} {D : Int → Prop}
def LtAt (x : List Int) (c n : Int) : Prop := ∀ i j, 0 ≤ i → i < c → c ≤ j → j < n → gt x i < gt x j
theorem LtAt.mv {x r : List Int} {p q c n : Int} (h : LtAt x c n) (m : Mv p q x r) (h0 : 0 ≤ p) (hq : q ≤ n) (hc : c ≤ p ∨ q ≤ c) : LtAt r c n := by
  intro i j i0 ic cj jn
  rcases hc with hc | hc
  · rw [m.out i i0 (.inl (by omega))]
    by_cases c1 : p ≤ j ∧ j < q
    · exact m.keeps (fun u => gt x i < u) (fun t t0 t1 => h i t i0 ic (by omega) (by omega)) j c1.1 c1.2
    · rw [m.out j (by omega) (by omega)]; exact h i j i0 ic cj jn
  · rw [m.out j (by omega) (.inr (by omega))]
    by_cases c1 : p ≤ i ∧ i < q
    · exact m.keeps (fun u => u < gt x j) (fun t t0 t1 => h t j (by omega) (by omega) cj jn) i c1.1 c1.2
    · rw [m.out i i0 (by omega)]; exact h i j i0 ic cj jn
theorem Srt.mv {x r : List Int} {p q a b : Int} (h : Srt lt x a b) (m : Mv p q x r) (ha : 0 ≤ a) (hc : b ≤ p ∨ q ≤ a) : Srt lt r a b := by
  intro i j i0 ij j0
  rw [m.out i (by omega) (by omega), m.out j (by omega) (by omega)]
  exact h i j i0 ij j0
theorem LtAt.lts {x : List Int} {a m b n : Int} (h : LtAt x m n) (ha : 0 ≤ a) (hb : b ≤ n) : Lts x a m b := fun i j i0 i1 j0 j1 => h i j (by omega) i1 j0 (by omega)
theorem Inc.ltAt {d : List Int} {n : Int} (h : Inc d 0 n) (c : Int) : LtAt d c n := fun i j i0 i1 j0 j1 => h i j i0 (by omega) j1
theorem stable_l0 (hc : CmpOK cmp lt D) (hw : Wk lt) {d : List Int} {n : Int} (hn : n = d.length) (hm : n ≤ 1000) (hD : Dm D d 0 n) (hI : Inc d 0 n) :
    ∀ (m : Nat) (k0 : Int) (k : Nat) (x : List Int), n < 20 * k0 + 20 * m + 20 → m < k → 0 ≤ k0 → 20 * k0 ≤ n → Mv 0 (20 * k0) d x → (∀ j : Int, 0 ≤ j → 20 * j + 20 ≤ 20 * k0 → Srt lt x (20 * j) (20 * j + 20)) → (∀ j : Int, LtAt x (20 * j) n) →
      ∃ y k1, gs_stableCmpFunc.l0 n cmp k x (20 * k0) (20 * k0 + 20) = some (y, 20 * k1) ∧ 0 ≤ k1 ∧ 20 * k1 ≤ n ∧ n < 20 * k1 + 20 ∧ Mv 0 (20 * k1) d y ∧ (∀ j : Int, 0 ≤ j → 20 * j + 20 ≤ 20 * k1 → Srt lt y (20 * j) (20 * j + 20)) ∧ ∀ j : Int, LtAt y (20 * j) n := by
  intro m
  induction m with
  | zero =>
    intro k0 k x hlt hk h0 hle hx hs hL
    obtain ⟨k, rfl⟩ : ∃ m, k = m + 1 := ⟨k - 1, by omega⟩
    have hd : decide (20 * k0 + 20 ≤ n) = false := decide_eq_false (by omega)
    exact ⟨x, k0, by simp only [gs_stableCmpFunc.l0, hd, Bool.false_eq_true, if_false], h0, hle, by omega, hx, hs, hL⟩
  | succ m ih =>
    intro k0 k x hlt hk h0 hle hx hs hL
    obtain ⟨k, rfl⟩ : ∃ m, k = m + 1 := ⟨k - 1, by omega⟩
    by_cases c : 20 * k0 + 20 ≤ n
    · have hd : decide (20 * k0 + 20 ≤ n) = true := decide_eq_true c
      have xl := hx.len
      have ho : ∀ i, 20 * k0 ≤ i → gt x i = gt d i := fun i hi => hx.out i (by omega) (.inr hi)
      obtain ⟨y, y1, y2, y3⟩ := insertion hc hw (d := x) (a := 20 * k0) (b := 20 * k0 + 20) (by omega) (by omega) (by omega) (by omega) (fun i i0 i1 => by rw [ho i i0]; exact hD i (by omega) (by omega))
        (fun i j i0 ij j1 => by rw [ho i i0, ho j (by omega)]; exact hI i j (by omega) ij (by omega))
      have e1 : wi64 (20 * k0 + 20 + 20) = 20 * (k0 + 1) + 20 := by rw [wi64_id (by omega)]; omega
      have e2 : 20 * k0 + 20 = 20 * (k0 + 1) := by omega
      obtain ⟨z, k1, z1, z2⟩ := ih (k0 + 1) k y (by omega) (by omega) (by omega) (by omega) (by
          rw [← e2]; exact (hx.mono (Int.le_refl _) (Int.le_refl _) (by omega)).trans (y2.mono (Int.le_refl _) (by omega) (Int.le_refl _)))
        (fun j j0 j1 => by
          by_cases cj : j = k0
          · rw [cj]; exact y3
          · exact (hs j j0 (by omega)).mv y2 (by omega) (.inl (by omega)))
        (fun j => (hL j).mv y2 (by omega) c (by omega))
      refine ⟨z, k1, ?_, z2⟩
      simp only [gs_stableCmpFunc.l0, hd, if_true, y1, Option.bind_some, e1]
      rw [e2]; exact z1
    · have hd : decide (20 * k0 + 20 ≤ n) = false := decide_eq_false c
      exact ⟨x, k0, by simp only [gs_stableCmpFunc.l0, hd, Bool.false_eq_true, if_false], h0, hle, by omega, hx, hs, hL⟩
theorem stable (hc : CmpOK cmp lt D) (hw : Wk lt) {d : List Int} {n : Int} (hn : n = d.length) (hm : n ≤ 64) (hD : Dm D d 0 n) (hI : Inc d 0 n) :
    ∃ r, gs_SortStableFunc d cmp = some r ∧ Mv 0 n d r ∧ Srt lt r 0 n := by
  obtain ⟨y, k1, y1, y2, y3, y4, y5, y6, y7⟩ := stable_l0 hc hw hn (by omega) hD hI 4 0 FU d (by omega) (by simp [FU]) (by omega) (by omega) (Mv.refl _ _ _) (fun j j0 j1 => by omega) (fun j => hI.ltAt _)
  rw [show (20 : Int) * 0 = 0 from rfl, show (0 : Int) + 20 = 20 from rfl] at y1
  have yl := y5.len
  have ho : ∀ i, 20 * k1 ≤ i → gt y i = gt d i := fun i hi => y5.out i (by omega) (.inr hi)
  obtain ⟨z, z1, z2, z3⟩ := insertion hc hw (d := y) (a := 20 * k1) (b := n) (by omega) (by omega) (by omega) (by omega) (fun i i0 i1 => by rw [ho i i0]; exact hD i (by omega) i1)
    (fun i j i0 ij j1 => by rw [ho i i0, ho j (by omega)]; exact hI i j (by omega) ij j1)
  have zl := z2.len
  have zd : Mv 0 n d z := (y5.mono (Int.le_refl _) (Int.le_refl _) y3).trans (z2.mono (Int.le_refl _) (by omega) (Int.le_refl _))
  have zS : ∀ j : Int, 0 ≤ j → 20 * j + 20 ≤ 20 * k1 → Srt lt z (20 * j) (20 * j + 20) := fun j j0 j1 => (y6 j j0 j1).mv z2 (by omega) (.inl j1)
  have zL : ∀ j : Int, 20 * j ≤ 20 * k1 → LtAt z (20 * j) n := fun j hj => (y7 j).mv z2 (by omega) (Int.le_refl _) (.inl hj)
  have zD : Dm D z 0 n := zd.keeps D hD
  suffices h : ∃ r, gs_stableCmpFunc.l1 n cmp FU z 20 = some r ∧ Mv 0 n z r ∧ Srt lt r 0 n by
    obtain ⟨r, r1, r2, r3⟩ := h
    have mv := zd.trans r2
    refine ⟨r, ?_, mv, r3⟩
    unfold gs_SortStableFunc gs_stableCmpFunc
    rw [← hn, y1]
    simp only [Option.bind_some, z1, r1]
    rw [if_pos mv.len]
    simp only [Option.bind_some]
    rw [if_pos mv.len]
  obtain ⟨f, hF, _⟩ := FU_succ 4 (by omega)
  have l2 : ∀ (x : List Int) (bs a b : Int), ¬ b ≤ n → gs_stableCmpFunc.l2 n bs cmp FU x a b = some (x, a) := fun x bs a b h => by
    rw [hF]; simp only [gs_stableCmpFunc.l2, decide_eq_false h, Bool.false_eq_true, if_false]
  have m40 : wi64 (2 * 20) = 40 := by decide +kernel
  have m40' : wi64 (20 * 2) = 40 := by decide +kernel
  have m80 : wi64 (2 * 40) = 80 := by decide +kernel
  have m80' : wi64 (40 * 2) = 80 := by decide +kernel
  have a20 : wi64 (0 + 20) = 20 := by decide +kernel
  have a40 : wi64 (0 + 40) = 40 := by decide +kernel
  have a60 : wi64 (40 + 20) = 60 := by decide +kernel
  have a80 : wi64 (40 + 40) = 80 := by decide +kernel
  by_cases c20 : 20 < n
  · have d20 : decide (20 < n) = true := decide_eq_true c20
    have z20 : Srt lt z 0 20 := by have := zS 0 (by omega) (by omega); simpa using this
    have L20 : LtAt z 20 n := by have := zL 1 (by omega); simpa using this
    by_cases c40 : 40 ≤ n
    · have z40 : Srt lt z 20 40 := by have := zS 1 (by omega) (by omega); simpa using this
      have L40 : LtAt z 40 n := by have := zL 2 (by omega); simpa using this
      obtain ⟨u, u1, u2, u3⟩ := symMerge hc hw 40 FU z 0 20 40 (by omega) (by simp [FU]) (by omega) (by omega) (by omega) (by omega) (by omega) (fun i i0 i1 => zD i i0 (by omega)) z20 z40 (L20.lts (by omega) (by omega))
      have ul := u2.len
      have uL : LtAt u 40 n := L40.mv u2 (by omega) (by omega) (.inr (by omega))
      have uD : Dm D u 0 n := (u2.mono (Int.le_refl _) (Int.le_refl _) (by omega)).keeps D zD
      have hl2 : gs_stableCmpFunc.l2 n 20 cmp FU z 0 40 = some (u, 40) := by
        rw [hF]
        simp only [gs_stableCmpFunc.l2, decide_eq_true c40, if_true, a20, u1, Option.bind_some, m40, a80, decide_eq_false (show ¬ (80 : Int) ≤ n by omega), Bool.false_eq_true, if_false]
      -- what stands behind 40, sorted
      obtain ⟨v, v1, v2, v3⟩ : ∃ v, (if decide (60 < n) = true then ((gs_symMergeCmpFunc FU u 40 60 n cmp).bind fun y47 => some y47) else some u) = some v ∧ Mv 40 n u v ∧ Srt lt v 40 n := by
        by_cases c60 : 60 < n
        · have z60 : Srt lt z 40 60 := by have := zS 2 (by omega) (by omega); simpa using this
          have zE : Srt lt z 60 n := by
            have : 20 * k1 = 60 := by omega
            rw [this] at z3; exact z3
          have L60 : LtAt z 60 n := by have := zL 3 (by omega); simpa using this
          obtain ⟨v, v1, v2, v3⟩ := symMerge hc hw 40 FU u 40 60 n (by omega) (by simp [FU]) (by omega) (by omega) (by omega) (by omega) (by omega) (fun i i0 i1 => uD i (by omega) i1) (z60.mv u2 (by omega) (.inr (by omega))) (zE.mv u2 (by omega) (.inr (by omega)))
            ((L60.mv u2 (by omega) (by omega) (.inr (by omega))).lts (by omega) (Int.le_refl _))
          exact ⟨v, by rw [if_pos (decide_eq_true c60), v1]; rfl, v2, v3⟩
        · refine ⟨u, by rw [if_neg (by simpa using c60)], Mv.refl _ _ _, ?_⟩
          by_cases c6 : n = 60
          · have z60 : Srt lt z 40 60 := by have := zS 2 (by omega) (by omega); simpa using this
            rw [c6]; exact z60.mv u2 (by omega) (.inr (by omega))
          · have : 20 * k1 = 40 := by omega
            rw [this] at z3; exact z3.mv u2 (by omega) (.inr (by omega))
      have vl := v2.len
      have zv : Mv 0 n z v := (u2.mono (Int.le_refl _) (Int.le_refl _) (by omega)).trans (v2.mono (Int.le_refl _) (by omega) (Int.le_refl _))
      have vS : Srt lt v 0 40 := u3.mv v2 (by omega) (.inl (by omega))
      have vL : LtAt v 40 n := uL.mv v2 (by omega) (Int.le_refl _) (.inl (by omega))
      have vD : Dm D v 0 n := zv.keeps D zD
      by_cases c4 : 40 < n
      · obtain ⟨w, w1, w2, w3⟩ := symMerge hc hw 64 FU v 0 40 n (by omega) (by simp [FU]) (by omega) (by omega) c4 (by omega) (by omega) vD vS v3 (vL.lts (by omega) (Int.le_refl _))
        refine ⟨w, ?_, zv.trans w2, w3⟩
        have hl2' : gs_stableCmpFunc.l2 n 40 cmp FU v 0 80 = some (v, 0) := l2 v 40 0 80 (by omega)
        obtain ⟨g, hG⟩ : ∃ g, FU = g + 1 + 1 + 1 := ⟨f + 1, by omega⟩
        conv => lhs; rw [show gs_stableCmpFunc.l1 n cmp FU z 20 = gs_stableCmpFunc.l1 n cmp (g + 1 + 1 + 1) z 20 by rw [hG]]
        simp only [gs_stableCmpFunc.l1, d20, if_true, m40, hl2, Option.bind_some, a60, v1, m40', decide_eq_true c4, m80, hl2', a40, w1, m80', decide_eq_false (show ¬ (80 : Int) < n by omega), Bool.false_eq_true, if_false]
      · obtain rfl : n = 40 := by omega
        refine ⟨v, ?_, zv, vS⟩
        obtain ⟨g, hG⟩ : ∃ g, FU = g + 1 + 1 + 1 := ⟨f + 1, by omega⟩
        conv => lhs; rw [show gs_stableCmpFunc.l1 40 cmp FU z 20 = gs_stableCmpFunc.l1 40 cmp (g + 1 + 1 + 1) z 20 by rw [hG]]
        simp only [gs_stableCmpFunc.l1, d20, if_true, m40, hl2, Option.bind_some, a60, v1, m40', decide_eq_false c4, Bool.false_eq_true, if_false]
    · have : 20 * k1 = 20 := by omega
      rw [this] at z3
      obtain ⟨w, w1, w2, w3⟩ := symMerge hc hw 64 FU z 0 20 n (by omega) (by simp [FU]) (by omega) (by omega) c20 (by omega) (by omega) zD z20 z3 (L20.lts (by omega) (Int.le_refl _))
      refine ⟨w, ?_, w2, w3⟩
      have hl2' : gs_stableCmpFunc.l2 n 20 cmp FU z 0 40 = some (z, 0) := l2 z 20 0 40 c40
      obtain ⟨g, hG⟩ : ∃ g, FU = g + 1 + 1 + 1 := ⟨f + 1, by omega⟩
      conv => lhs; rw [show gs_stableCmpFunc.l1 n cmp FU z 20 = gs_stableCmpFunc.l1 n cmp (g + 1 + 1 + 1) z 20 by rw [hG]]
      simp only [gs_stableCmpFunc.l1, d20, if_true, m40, hl2', Option.bind_some, a20, decide_eq_true c20, w1, m40', decide_eq_false (show ¬ (40 : Int) < n by omega), Bool.false_eq_true, if_false]
  · have d20 : decide (20 < n) = false := decide_eq_false c20
    refine ⟨z, by rw [hF]; simp only [gs_stableCmpFunc.l1, d20, Bool.false_eq_true, if_false], Mv.refl _ _ _, ?_⟩
    by_cases c : n = 20
    · have z20 : Srt lt z 0 20 := by have := zS 0 (by omega) (by omega); simpa using this
      rw [c]; exact z20
    · have : 20 * k1 = 0 := by omega
      rw [this] at z3; exact z3
end Go.Cen
