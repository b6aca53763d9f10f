/- Lists turned by swaps within a part; swaps of ranges, rotation. -/
import Derived.Test.YthdoklobbcedcaaSortG
import Derived.Test.YthdoklobbcedcaaCenMa
set_option linter.unusedVariables false
set_option linter.unusedSimpArgs false
namespace Go.Cen
/-- r is d, turned within [a, b) alone. -/
structure Mv (a b : Int) (d r : List Int) : Prop where
  len : r.length = d.length
  perm : r.Perm d
  out : ∀ i, 0 ≤ i → (i < a ∨ b ≤ i) → gt r i = gt d i
  keeps : ∀ Q : Int → Prop, (∀ i, a ≤ i → i < b → Q (gt d i)) → ∀ i, a ≤ i → i < b → Q (gt r i)
theorem Mv.refl (a b : Int) (d : List Int) : Mv a b d d := ⟨rfl, .refl _, fun _ _ _ => rfl, fun _ h => h⟩
theorem Mv.trans {a b : Int} {d e r : List Int} (h : Mv a b d e) (k : Mv a b e r) : Mv a b d r :=
  ⟨k.len.trans h.len, k.perm.trans h.perm, fun i h0 hi => (k.out i h0 hi).trans (h.out i h0 hi), fun Q hq => k.keeps Q (h.keeps Q hq)⟩
theorem Mv.mono {a b a' b' : Int} {d r : List Int} (h : Mv a b d r) (h0 : 0 ≤ a') (ha : a' ≤ a) (hb : b ≤ b') : Mv a' b' d r := by
  refine ⟨h.len, h.perm, fun i i0 hi => h.out i i0 (by omega), fun Q hq i i0 i1 => ?_⟩
  rcases Int.lt_or_le i a with h1 | h1
  · rw [h.out i (by omega) (.inl h1)]; exact hq i i0 i1
  · rcases Int.lt_or_le i b with h2 | h2
    · exact h.keeps Q (fun j j0 j1 => hq j (by omega) (by omega)) i h1 h2
    · rw [h.out i (by omega) (.inr h2)]; exact hq i i0 i1
/-- two places changed -/
def sw (d : List Int) (i j : Int) : List Int := st (st d i (gt d j)) j (gt d i)
theorem sw_len (d : List Int) (i j : Int) : (sw d i j).length = d.length := by simp [sw, st_length]
theorem gt_sw (d : List Int) {i j : Int} (hi : 0 ≤ i ∧ i < d.length) (hj : 0 ≤ j ∧ j < d.length) (t : Int) (ht : 0 ≤ t) : gt (sw d i j) t = if t = j then gt d i else if t = i then gt d j else gt d t := by
  unfold sw
  rw [gt_st _ _ _ _ hj.1 ht (by rw [st_length]; exact hj.2)]
  split
  · rfl
  · rw [gt_st _ _ _ _ hi.1 ht hi.2]
theorem perm_set : ∀ (l : List Int) (i : Nat) (v : Int) (h : i < l.length), (l[i] :: l.set i v).Perm (v :: l)
  | x :: r, 0, v, _ => by simpa using List.Perm.swap v x r
  | x :: r, i + 1, v, h => by
    have hi : i < r.length := by simpa using h
    have := perm_set r i v hi
    simp only [List.getElem_cons_succ, List.set_cons_succ]
    exact (List.Perm.swap x r[i] (r.set i v)).trans ((this.cons x).trans (List.Perm.swap v x r))
theorem sw_perm (d : List Int) {i j : Int} (hi : 0 ≤ i ∧ i < d.length) (hj : 0 ≤ j ∧ j < d.length) : (sw d i j).Perm d := by
  obtain ⟨li, ei⟩ := gt_lt d hi.1 hi.2
  have hj' : j < (st d i (gt d j)).length := by rw [st_length]; exact hj.2
  obtain ⟨lj, ej⟩ := gt_lt (st d i (gt d j)) hj.1 hj'
  have h1 := perm_set d i.toNat (gt d j) li
  have h2 := perm_set (st d i (gt d j)) j.toNat (gt d i) lj
  have e : (st d i (gt d j))[j.toNat] = gt d j := by
    rw [← ej, gt_st _ _ _ _ hi.1 hj.1 hi.2]
    split
    · rename_i e; rw [e]
    · rfl
  rw [e] at h2
  rw [← ei] at h1
  have h3 : (gt d j :: sw d i j).Perm (gt d i :: st d i (gt d j)) := h2
  have h4 : (gt d i :: st d i (gt d j)).Perm (gt d j :: d) := h1
  exact List.Perm.cons_inv (h3.trans h4)
theorem Mv.sw {a b : Int} {d : List Int} {i j : Int} (h0 : 0 ≤ a) (hb : b ≤ d.length) (hi : a ≤ i ∧ i < b) (hj : a ≤ j ∧ j < b) : Mv a b d (sw d i j) := by
  have hi' : 0 ≤ i ∧ i < d.length := by omega
  have hj' : 0 ≤ j ∧ j < d.length := by omega
  refine ⟨sw_len _ _ _, sw_perm d hi' hj', fun t t0 ht => ?_, fun Q hq t t0 t1 => ?_⟩
  · rw [gt_sw d hi' hj' t t0, if_neg (by omega), if_neg (by omega)]
  · rw [gt_sw d hi' hj' t (by omega)]
    split
    · exact hq i hi.1 hi.2
    · split
      · exact hq j hj.1 hj.2
      · exact hq t t0 t1
/-- swaps of two ranges -/
def swR (d : List Int) (a b n : Int) (t : Int) : Int := if a ≤ t ∧ t < a + n then gt d (t - a + b) else if b ≤ t ∧ t < b + n then gt d (t - b + a) else gt d t
theorem swap_l0 {d : List Int} {a b n : Int} (ha : 0 ≤ a) (hab : a + n ≤ b) (hb : b + n ≤ d.length) (hn : 0 ≤ n) (hm : (d.length : Int) ≤ 1000000) : ∀ (m : Nat) (i : Int) (k : Nat) (x : List Int), i = n - m → 0 ≤ i → m < k → Mv a (b + n) d x → (∀ t, 0 ≤ t → gt x t = swR d a b i t) →
    ∃ r, gs_swapRangeCmpFunc.l0 n b a k x i = some r ∧ Mv a (b + n) d r ∧ ∀ t, 0 ≤ t → gt r t = swR d a b n t := by
  intro m
  induction m with
  | zero =>
    intro i k x hi h0 hk hx hg
    obtain ⟨k, rfl⟩ : ∃ m, k = m + 1 := ⟨k - 1, by omega⟩
    have hd : decide (i < n) = false := decide_eq_false (by omega)
    obtain rfl : i = n := by omega
    exact ⟨x, by simp [gs_swapRangeCmpFunc.l0], hx, hg⟩
  | succ m ih =>
    intro i k x hi h0 hk hx hg
    obtain ⟨k, rfl⟩ : ∃ m, k = m + 1 := ⟨k - 1, by omega⟩
    have hd : decide (i < n) = true := decide_eq_true (by omega)
    have hl := hx.len
    have e1 : wi64 (b + i) = b + i := wi64_id (by omega)
    have e2 : wi64 (a + i) = a + i := wi64_id (by omega)
    have e3 : wi64 (i + 1) = i + 1 := wi64_id (by omega)
    have g1 : 0 ≤ b + i ∧ b + i < (x.length : Int) := by omega
    have g2 : 0 ≤ a + i ∧ a + i < (x.length : Int) := by omega
    simp only [gs_swapRangeCmpFunc.l0, hd, if_true, e1, e2, e3, g1, g2, and_self, st_length]
    refine ih (i + 1) k (sw x (a + i) (b + i)) (by omega) (by omega) (by omega) (hx.trans (Mv.sw ha (by rw [hl]; omega) (by omega) (by omega))) (fun t ht => ?_)
    rw [gt_sw x g2 g1 t ht]
    have hga := hg (a + i) (by omega)
    have hgb := hg (b + i) (by omega)
    have hgt := hg t ht
    unfold swR at hga hgb hgt ⊢
    rw [if_neg (by omega), if_neg (by omega)] at hga
    rw [if_neg (by omega), if_neg (by omega)] at hgb
    rw [hga, hgb, hgt]
    repeat' split
    all_goals first | rfl | omega | (congr 1; omega) | (exfalso; omega)
theorem swap_range {d : List Int} {a b n : Int} {cmp : Int → Int → Option Int} (ha : 0 ≤ a) (hab : a + n ≤ b) (hb : b + n ≤ d.length) (hn : 0 ≤ n) (hm : (d.length : Int) ≤ 1000000) :
    ∃ r, gs_swapRangeCmpFunc d a b n cmp = some r ∧ Mv a (b + n) d r ∧ ∀ t, 0 ≤ t → gt r t = swR d a b n t := by
  obtain ⟨r, h1, h2, h3⟩ := swap_l0 ha hab hb hn hm n.toNat 0 FU d (by omega) (by omega) (by simp [FU]; omega) (Mv.refl _ _ _) (fun t ht => by unfold swR; rw [if_neg (by omega), if_neg (by omega)])
  refine ⟨r, ?_, h2, h3⟩
  unfold gs_swapRangeCmpFunc
  rw [h1]; simp only [Option.bind_some]; rw [if_pos h2.len]
/-- the two parts of [a, b), changed -/
def rotR (d : List Int) (a m b : Int) (t : Int) : Int := if a ≤ t ∧ t < a + (b - m) then gt d (t - a + m) else if a + (b - m) ≤ t ∧ t < b then gt d (t - (b - m)) else gt d t
theorem rot_l0 {m : Int} {cmp : Int → Int → Option Int} : ∀ (s : Nat) (k : Nat) (x : List Int) (i j : Int), (i + j).toNat ≤ s → s < k → 0 < i → 0 < j → 0 ≤ m - i → m + j ≤ x.length → (x.length : Int) ≤ 1000000 →
    ∃ y n, gs_rotateCmpFunc.l0 m cmp k x i j = some (y, n) ∧ 0 < n ∧ Mv (m - i) (m + j) x y ∧ n ≤ i ∧ n ≤ j ∧ (∀ t, 0 ≤ t → swR y (m - n) m n t = rotR x (m - i) m (m + j) t) := by
  intro s
  induction s with
  | zero => intro k x i j hs; omega
  | succ s ih =>
    intro k x i j hs hk hi hj h0 hl hm
    obtain ⟨k, rfl⟩ : ∃ m, k = m + 1 := ⟨k - 1, by omega⟩
    by_cases hij : i = j
    · subst hij
      refine ⟨x, i, by simp [gs_rotateCmpFunc.l0], hi, Mv.refl _ _ _, Int.le_refl _, Int.le_refl _, fun t ht => ?_⟩
      unfold swR rotR
      repeat' split
      all_goals first | rfl | omega | (congr 1; omega) | (exfalso; omega)
    · have hne : (i != j) = true := by simpa using hij
      have e1 : wi64 (m - i) = m - i := wi64_id (by omega)
      by_cases hgt : i > j
      · have hd : decide (i > j) = true := decide_eq_true hgt
        have e2 : wi64 (i - j) = i - j := wi64_id (by omega)
        obtain ⟨y, h1, h2, h3⟩ := swap_range (d := x) (a := m - i) (b := m) (n := j) (cmp := cmp) h0 (by omega) (by omega) (by omega) hm
        have hyl := h2.len
        obtain ⟨z, n, k1, k2, k3, k4, k5, k6⟩ := ih k y (i - j) j (by omega) (by omega) (by omega) hj (by omega) (by omega) (by omega)
        refine ⟨z, n, ?_, k2, h2.trans (k3.mono h0 (by omega) (by omega)), by omega, k5, fun t ht => ?_⟩
        · simp only [gs_rotateCmpFunc.l0, hne, if_true, hd, e1, e2, h1, Option.bind_some]
          exact k1
        · rw [k6 t ht]
          have q : ∀ t, 0 ≤ t → gt y t = swR x (m - i) m j t := h3
          unfold rotR
          rw [show m - (i - j) = m - i + j by omega]
          split
          · rw [q _ (by omega)]; unfold swR
            repeat' split
            all_goals first | rfl | omega | (congr 1; omega) | (exfalso; omega)
          · split
            · rw [q _ (by omega)]; unfold swR
              repeat' split
              all_goals first | rfl | omega | (congr 1; omega) | (exfalso; omega)
            · rw [q _ ht]; unfold swR
              repeat' split
              all_goals first | rfl | omega | (congr 1; omega) | (exfalso; omega)
      · have hd : decide (i > j) = false := decide_eq_false hgt
        have e2 : wi64 (j - i) = j - i := wi64_id (by omega)
        have e3 : wi64 (wi64 (m + j) - i) = m + j - i := by rw [wi64_id (x := m + j) (by omega), wi64_id (by omega)]
        obtain ⟨y, h1, h2, h3⟩ := swap_range (d := x) (a := m - i) (b := m + j - i) (n := i) (cmp := cmp) h0 (by omega) (by omega) (by omega) hm
        have hyl := h2.len
        rw [show m + j - i + i = m + j by omega] at h2
        obtain ⟨z, n, k1, k2, k3, k4, k5, k6⟩ := ih k y i (j - i) (by omega) (by omega) hi (by omega) h0 (by omega) (by omega)
        refine ⟨z, n, ?_, k2, h2.trans (k3.mono h0 (by omega) (by omega)), k4, by omega, fun t ht => ?_⟩
        · simp only [gs_rotateCmpFunc.l0, hne, if_true, hd, Bool.false_eq_true, if_false, e1, e2, e3, h1, Option.bind_some]
          exact k1
        · rw [k6 t ht]
          have q : ∀ t, 0 ≤ t → gt y t = swR x (m - i) (m + j - i) i t := h3
          unfold rotR
          split
          · rw [q _ (by omega)]; unfold swR
            repeat' split
            all_goals first | rfl | omega | (congr 1; omega) | (exfalso; omega)
          · split
            · rw [q _ (by omega)]; unfold swR
              repeat' split
              all_goals first | rfl | omega | (congr 1; omega) | (exfalso; omega)
            · rw [q _ ht]; unfold swR
              repeat' split
              all_goals first | rfl | omega | (congr 1; omega) | (exfalso; omega)
theorem rotate {d : List Int} {a m b : Int} {cmp : Int → Int → Option Int} (ha : 0 ≤ a) (h1 : a < m) (h2 : m < b) (hb : b ≤ d.length) (hm : (d.length : Int) ≤ 1000000) :
    ∃ r, gs_rotateCmpFunc d a m b cmp = some r ∧ Mv a b d r ∧ ∀ t, 0 ≤ t → gt r t = rotR d a m b t := by
  obtain ⟨y, n, k1, k2, k3, k4, k5, k6⟩ := rot_l0 (m := m) (cmp := cmp) ((m - a) + (b - m)).toNat FU d (m - a) (b - m) (Nat.le_refl _) (by simp [FU]; omega) (by omega) (by omega) (by omega) (by omega) hm
  have hyl := k3.len
  rw [show m - (m - a) = a by omega, show m + (b - m) = b by omega] at k3 k6
  obtain ⟨r, r1, r2, r3⟩ := swap_range (d := y) (a := m - n) (b := m) (n := n) (cmp := cmp) (by omega) (by omega) (by omega) (by omega) (by omega)
  have mv := k3.trans (r2.mono ha (by omega) (by omega))
  refine ⟨r, ?_, mv, fun t ht => by rw [r3 t ht, k6 t ht]⟩
  unfold gs_rotateCmpFunc
  rw [wi64_id (x := m - a) (by omega), wi64_id (x := b - m) (by omega), k1]
  simp only [Option.bind_some]
  rw [wi64_id (x := m - n) (by omega), r1]
  simp only [Option.bind_some]
  rw [if_pos mv.len]
end Go.Cen
