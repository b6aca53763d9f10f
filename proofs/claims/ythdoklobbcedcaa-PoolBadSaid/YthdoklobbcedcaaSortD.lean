/- The library's merge in place, whole; the stable sort. -/
import Derived.Test.YthdoklobbcedcaaSortC
set_option linter.unusedVariables false
set_option linter.unusedSimpArgs false
namespace Go.Cen
variable {cmp : Int → Int → Option Int} {lt : Int → Int → Prop} {D : Int → Prop}
def Lts (d : List Int) (a m b : Int) : Prop := ∀ i j, a ≤ i → i < m → m ≤ j → j < b → gt d i < gt d j
theorem sym_up (hc : CmpOK cmp lt D) (hw : Wk lt) {d : List Int} {a b : Int} (h0 : 0 ≤ a) (hmb : a + 1 < b) (hb : b ≤ d.length) (hm : (d.length : Int) ≤ 1000000) (hD : Dm D d a b) (h2 : Srt lt d (a + 1) b) (hL : Lts d a (a + 1) b) (fk : Nat) :
    ∃ r, gs_symMergeCmpFunc (fk + 1) d a (a + 1) b cmp = some r ∧ Mv a b d r ∧ Srt lt r a b := by
  obtain ⟨i, i1, i2, i3, i4, i5⟩ := find_l0 hc (m := a + 1) h0 (by omega) hb hm hD (b - (a + 1)).toNat (a + 1) b FU (Nat.le_refl _) (by simp [FU]; omega) (Int.le_refl _) (by omega) (Int.le_refl _) (.inl rfl) (.inl rfl)
  obtain ⟨r, r1, r2, r3⟩ := up_l1 (d := d) (a := a) (i := i) h0 (by omega) (by omega) hm (i - 1 - a).toNat a FU d (by omega) (Int.le_refl _) (by simp [FU]; omega) (Mv.refl _ _ _) (fun t ht => by
    unfold upR
    repeat' split
    all_goals first | rfl | omega | (congr 1 <;> omega) | (exfalso; omega))
  have mv := r2.mono h0 (Int.le_refl _) i3
  have e1 : (wi64 (a + 1 - a) == 1) = true := by rw [wi64_id (by omega)]; simp only [beq_iff_eq]; omega
  have F1 : ∀ p, a + 1 ≤ p → p < i → TT lt (gt d p) (gt d a) := fun p p0 p1 => by
    rcases i4 with i4 | i4
    · omega
    · by_cases c : p = i - 1
      · rw [c]; exact .inl i4
      · exact TT.trans hw (h2 p (i - 1) p0 (by omega) (by omega)) (.inl i4)
  have F2 : ∀ q, i ≤ q → q < b → TT lt (gt d a) (gt d q) := fun q q0 q1 => by
    rcases i5 with i5 | i5
    · omega
    · have hT : TT lt (gt d a) (gt d i) := .inr ⟨i5, hL a i (Int.le_refl _) (by omega) (by omega) (by omega)⟩
      by_cases c : q = i
      · rw [c]; exact hT
      · exact TT.trans hw hT (h2 i q (by omega) (by omega) q1)
  refine ⟨r, ?_, mv, fun p q p0 pq q0 => ?_⟩
  · simp only [gs_symMergeCmpFunc, e1, if_true, i1, r1, Option.bind_some]
    rw [if_pos r2.len]
  · rw [r3 p (by omega), r3 q (by omega)]
    unfold upR
    by_cases c1 : q < i - 1
    · rw [if_pos (c := a ≤ p ∧ p < i - 1) (by omega), if_pos (c := a ≤ q ∧ q < i - 1) (by omega)]
      exact h2 _ _ (by omega) (by omega) (by omega)
    · rw [if_neg (c := a ≤ q ∧ q < i - 1) (by omega)]
      by_cases c2 : q = i - 1
      · rw [if_pos c2, if_pos (c := a ≤ p ∧ p < i - 1) (by omega)]
        exact F1 _ (by omega) (by omega)
      · rw [if_neg c2]
        by_cases c3 : p < i - 1
        · rw [if_pos (c := a ≤ p ∧ p < i - 1) (by omega)]
          exact h2 _ _ (by omega) (by omega) q0
        · rw [if_neg (c := a ≤ p ∧ p < i - 1) (by omega)]
          by_cases c4 : p = i - 1
          · rw [if_pos c4]; exact F2 q (by omega) q0
          · rw [if_neg c4]; exact h2 p q (by omega) pq q0
theorem sym_dn (hc : CmpOK cmp lt D) (hw : Wk lt) {d : List Int} {a m : Int} (h0 : 0 ≤ a) (ham : a + 1 < m) (hb : m + 1 ≤ d.length) (hm : (d.length : Int) ≤ 1000000) (hD : Dm D d a (m + 1)) (h1 : Srt lt d a m) (hL : Lts d a m (m + 1)) (fk : Nat) :
    ∃ r, gs_symMergeCmpFunc (fk + 1) d a m (m + 1) cmp = some r ∧ Mv a (m + 1) d r ∧ Srt lt r a (m + 1) := by
  obtain ⟨i, i1, i2, i3, i4, i5⟩ := find_l2 hc (a := a) (m := m) h0 (by omega) hm hD (m - a).toNat a m FU (Nat.le_refl _) (by simp [FU]; omega) (Int.le_refl _) (by omega) (Int.le_refl _) (.inl rfl) (.inl rfl)
  obtain ⟨r, r1, r2, r3⟩ := dn_l3 (d := d) (i := i) (m := m) (by omega) i3 (by omega) hm (m - i).toNat m FU d (by omega) (Int.le_refl _) (by simp [FU]; omega) (Mv.refl _ _ _) (fun t ht => by
    unfold dnR
    repeat' split
    all_goals first | rfl | omega | (congr 1 <;> omega) | (exfalso; omega))
  have mv := r2.mono h0 i2 (Int.le_refl _)
  have e1 : (wi64 (m - a) == 1) = false := by rw [wi64_id (by omega)]; simp only [beq_eq_false_iff_ne, ne_eq]; omega
  have e2 : (wi64 (m + 1 - m) == 1) = true := by rw [wi64_id (by omega)]; simp only [beq_iff_eq]; omega
  have F1 : ∀ p, a ≤ p → p < i → TT lt (gt d p) (gt d m) := fun p p0 p1 => by
    rcases i4 with i4 | i4
    · omega
    · have hT : TT lt (gt d (i - 1)) (gt d m) := .inr ⟨i4, hL (i - 1) m (by omega) (by omega) (Int.le_refl _) (by omega)⟩
      by_cases c : p = i - 1
      · rw [c]; exact hT
      · exact TT.trans hw (h1 p (i - 1) p0 (by omega) (by omega)) hT
  have F2 : ∀ q, i ≤ q → q < m → TT lt (gt d m) (gt d q) := fun q q0 q1 => by
    rcases i5 with i5 | i5
    · omega
    · by_cases c : q = i
      · rw [c]; exact .inl i5
      · exact TT.trans hw (.inl i5) (h1 i q (by omega) (by omega) q1)
  refine ⟨r, ?_, mv, fun p q p0 pq q0 => ?_⟩
  · simp only [gs_symMergeCmpFunc, e1, e2, Bool.false_eq_true, if_false, if_true, i1, r1, Option.bind_some]
    rw [if_pos r2.len]
  · rw [r3 p (by omega), r3 q (by omega)]
    unfold dnR
    by_cases c1 : q < i
    · rw [if_neg (c := p = i) (by omega), if_neg (c := i < p ∧ p ≤ m) (by omega), if_neg (c := q = i) (by omega), if_neg (c := i < q ∧ q ≤ m) (by omega)]
      exact h1 _ _ p0 pq (by omega)
    · by_cases c2 : q = i
      · rw [if_neg (c := p = i) (by omega), if_neg (c := i < p ∧ p ≤ m) (by omega), if_pos (c := q = i) c2]
        exact F1 p p0 (by omega)
      · rw [if_neg (c := q = i) c2, if_pos (c := i < q ∧ q ≤ m) (by omega)]
        by_cases c3 : p < i
        · rw [if_neg (c := p = i) (by omega), if_neg (c := i < p ∧ p ≤ m) (by omega)]
          exact h1 _ _ p0 (by omega) (by omega)
        · by_cases c4 : p = i
          · rw [if_pos (c := p = i) c4]; exact F2 _ (by omega) (by omega)
          · rw [if_neg (c := p = i) c4, if_pos (c := i < p ∧ p ≤ m) (by omega)]
            exact h1 _ _ (by omega) (by omega) (by omega)
theorem symMerge (hc : CmpOK cmp lt D) (hw : Wk lt) : ∀ (s fk : Nat) (d : List Int) (a m b : Int), (b - a).toNat ≤ s → s < fk → 0 ≤ a → a < m → m < b → b ≤ d.length → (d.length : Int) ≤ 1000000 → Dm D d a b → Srt lt d a m → Srt lt d m b → Lts d a m b →
    ∃ r, gs_symMergeCmpFunc fk d a m b cmp = some r ∧ Mv a b d r ∧ Srt lt r a b := by
  intro s
  induction s with
  | zero => intro fk d a m b hs; omega
  | succ s ih =>
    intro fk d a m b hs hk h0 ham hmb hb hm hD h1 h2 hL
    obtain ⟨fk, rfl⟩ : ∃ m, fk = m + 1 := ⟨fk - 1, by omega⟩
    by_cases cm : m = a + 1
    · subst cm; exact sym_up hc hw h0 (by omega) hb hm hD h2 hL fk
    by_cases cb : b = m + 1
    · subst cb; exact sym_dn hc hw h0 (by omega) hb hm hD h1 hL fk
    have e1 : (wi64 (m - a) == 1) = false := by rw [wi64_id (by omega)]; simp only [beq_eq_false_iff_ne, ne_eq]; omega
    have e2 : (wi64 (b - m) == 1) = false := by rw [wi64_id (by omega)]; simp only [beq_eq_false_iff_ne, ne_eq]; omega
    have hmid := half (x := a) (y := b) h0 (by omega) (by omega)
    have fl := fun lo hi => find_l4 hc (a := a) (m := m) (b := b) (lo := lo) (hi := hi) (d := d) (cmp := cmp) (lt := lt) (D := D)
    have hmr : a < (a + b) / 2 ∧ (a + b) / 2 < b ∧ a + b - 1 ≤ 2 * ((a + b) / 2) ∧ 2 * ((a + b) / 2) ≤ a + b := by omega
    generalize (a + b) / 2 = mid at hmid hmr fl
    -- where the search begins
    obtain ⟨lo, hi, hlh, q1, q2, q3, q4, q5, qlo, qhi⟩ : ∃ lo hi : Int, (if decide (m > mid) = true then some (wi64 (wi64 (mid + m) - b), mid) else some (a, m)) = some (lo, hi) ∧ a ≤ lo ∧ lo ≤ hi ∧ hi ≤ m ∧ mid + m - b ≤ lo ∧ hi ≤ mid ∧ (lo = a ∨ mid + m - lo = b) ∧ (hi = m ∨ mid + m - hi = m) := by
      by_cases c : m > mid
      · refine ⟨mid + m - b, mid, ?_, by omega, by omega, by omega, by omega, by omega, .inr (by omega), .inr (by omega)⟩
        rw [if_pos (decide_eq_true c), wi64_id (x := mid + m) (by omega), wi64_id (by omega)]
      · exact ⟨a, m, by rw [if_neg (by simpa using c)], by omega, by omega, by omega, by omega, by omega, .inl rfl, .inl rfl⟩
    obtain ⟨t, t1, t2, t3, t4, t5⟩ := fl lo hi h0 ham hmb hb hm hD q1 q3 q4 q5 (hi - lo).toNat lo hi FU (Nat.le_refl _) (by simp [FU]; omega) (Int.le_refl _) q2 (Int.le_refl _) (.inl rfl) (.inl rfl)
    have ee : wi64 (wi64 (mid + m) - t) = mid + m - t := by rw [wi64_id (x := mid + m) (by omega), wi64_id (by omega)]
    obtain ⟨e, he⟩ : ∃ e, mid + m - t = e := ⟨_, rfl⟩
    have he2 : m ≤ e ∧ e ≤ b ∧ t ≤ m ∧ t ≤ mid ∧ mid ≤ e := by omega
    -- what was found
    have A1 : ∀ x y, a ≤ x → x < t → e ≤ y → y < b → TT lt (gt d x) (gt d y) := fun x y x0 x1 y0 y1 => by
      rcases t4 with t4 | t4
      · rcases qlo with h | h <;> omega
      · rw [he] at t4
        have hT : TT lt (gt d (t - 1)) (gt d e) := .inr ⟨t4, hL (t - 1) e (by omega) (by omega) (by omega) (by omega)⟩
        have hT2 : TT lt (gt d x) (gt d e) := by
          by_cases c : x = t - 1
          · rw [c]; exact hT
          · exact TT.trans hw (h1 x (t - 1) x0 (by omega) (by omega)) hT
        by_cases c : y = e
        · rw [c]; exact hT2
        · exact TT.trans hw hT2 (h2 e y (by omega) (by omega) y1)
    have A2 : ∀ x y, m ≤ x → x < e → t ≤ y → y < m → TT lt (gt d x) (gt d y) := fun x y x0 x1 y0 y1 => by
      rcases t5 with t5 | t5
      · rcases qhi with h | h <;> omega
      · rw [show mid + m - 1 - t = e - 1 by omega] at t5
        have hT2 : TT lt (gt d x) (gt d t) := by
          by_cases c : x = e - 1
          · rw [c]; exact .inl t5
          · exact TT.trans hw (h2 x (e - 1) x0 (by omega) (by omega)) (.inl t5)
        by_cases c : y = t
        · rw [c]; exact hT2
        · exact TT.trans hw hT2 (h1 t y (by omega) (by omega) y1)
    -- the rotation
    obtain ⟨x, x1, x2, x3⟩ : ∃ x, ((if decide (t < m) = true then some (decide (m < e)) else some false).bind fun x117 => (if x117 = true then ((gs_rotateCmpFunc d t m e cmp).bind fun y121 => some y121) else some d)) = some x ∧ Mv a b d x ∧ ∀ z, 0 ≤ z → gt x z = rotR d t m e z := by
      by_cases c1 : t < m
      · rw [if_pos (decide_eq_true c1)]
        by_cases c2 : m < e
        · obtain ⟨x, x1, x2, x3⟩ := rotate (d := d) (a := t) (m := m) (b := e) (cmp := cmp) (by omega) c1 c2 (by omega) hm
          refine ⟨x, ?_, x2.mono h0 (by omega) (by omega), x3⟩
          simp only [Option.bind_some, decide_eq_true c2, if_true, x1]
        · refine ⟨d, by simp only [Option.bind_some, decide_eq_false c2, Bool.false_eq_true, if_false], Mv.refl _ _ _, fun z hz => ?_⟩
          unfold rotR
          repeat' split
          all_goals first | rfl | omega | (congr 1 <;> omega) | (exfalso; omega)
      · refine ⟨d, by simp only [decide_eq_false c1, Option.bind_some, Bool.false_eq_true, if_false], Mv.refl _ _ _, fun z hz => ?_⟩
        unfold rotR
        repeat' split
        all_goals first | rfl | omega | (congr 1 <;> omega) | (exfalso; omega)
    have xl := x2.len
    have xA : ∀ z, 0 ≤ z → z < t → gt x z = gt d z := fun z z0 z1 => by rw [x3 z z0]; unfold rotR; rw [if_neg (by omega), if_neg (by omega)]
    have xB : ∀ z, t ≤ z → z < mid → gt x z = gt d (z - t + m) := fun z z0 z1 => by rw [x3 z (by omega)]; unfold rotR; rw [if_pos (by omega)]
    have xC : ∀ z, mid ≤ z → z < e → gt x z = gt d (z - (e - m)) := fun z z0 z1 => by rw [x3 z (by omega)]; unfold rotR; rw [if_neg (by omega), if_pos (by omega)]
    have xD : ∀ z, e ≤ z → gt x z = gt d z := fun z z0 => by rw [x3 z (by omega)]; unfold rotR; rw [if_neg (by omega), if_neg (by omega)]
    have hDx := x2.keeps D hD
    have S1 : Srt lt x a t := fun i j i0 ij j0 => by rw [xA i (by omega) (by omega), xA j (by omega) (by omega)]; exact h1 i j i0 ij (by omega)
    have S2 : Srt lt x t mid := fun i j i0 ij j0 => by rw [xB i (by omega) (by omega), xB j (by omega) (by omega)]; exact h2 _ _ (by omega) (by omega) (by omega)
    have S3 : Srt lt x mid e := fun i j i0 ij j0 => by rw [xC i (by omega) (by omega), xC j (by omega) (by omega)]; exact h1 _ _ (by omega) (by omega) (by omega)
    have S4 : Srt lt x e b := fun i j i0 ij j0 => by rw [xD i (by omega), xD j (by omega)]; exact h2 _ _ (by omega) (by omega) (by omega)
    have across : ∀ i j, a ≤ i → i < mid → mid ≤ j → j < b → TT lt (gt x i) (gt x j) := fun i j i0 i1 j0 j1 => by
      by_cases ci : i < t
      · rw [xA i (by omega) ci]
        by_cases cj : j < e
        · rw [xC j j0 cj]; exact h1 _ _ i0 (by omega) (by omega)
        · rw [xD j (by omega)]; exact A1 i j i0 ci (by omega) j1
      · rw [xB i (by omega) i1]
        by_cases cj : j < e
        · rw [xC j j0 cj]; exact A2 _ _ (by omega) (by omega) (by omega) (by omega)
        · rw [xD j (by omega)]; exact h2 _ _ (by omega) (by omega) j1
    -- the left part
    obtain ⟨y, y1, y2, y3⟩ : ∃ y, ((if decide (a < t) = true then some (decide (t < mid)) else some false).bind fun x127 => (if x127 = true then ((gs_symMergeCmpFunc fk x a t mid cmp).bind fun y131 => some y131) else some x)) = some y ∧ Mv a mid x y ∧ Srt lt y a mid := by
      by_cases c1 : a < t
      · rw [if_pos (decide_eq_true c1)]
        by_cases c2 : t < mid
        · obtain ⟨y, y1, y2, y3⟩ := ih fk x a t mid (by omega) (by omega) h0 c1 c2 (by omega) (by omega) (fun i i0 i1 => hDx i i0 (by omega)) S1 S2 (fun i j i0 i1 j0 j1 => by
            rw [xA i (by omega) i1, xB j j0 j1]; exact hL _ _ i0 (by omega) (by omega) (by omega))
          exact ⟨y, by simp only [Option.bind_some, decide_eq_true c2, if_true, y1], y2, y3⟩
        · refine ⟨x, by simp only [Option.bind_some, decide_eq_false c2, Bool.false_eq_true, if_false], Mv.refl _ _ _, ?_⟩
          rw [show mid = t by omega]; exact S1
      · refine ⟨x, by simp only [decide_eq_false c1, Option.bind_some, Bool.false_eq_true, if_false], Mv.refl _ _ _, ?_⟩
        rw [show a = t by omega]; exact S2
    have yl := y2.len
    have yO : ∀ z, mid ≤ z → gt y z = gt x z := fun z hz => y2.out z (by omega) (.inr hz)
    have S3' : Srt lt y mid e := fun i j i0 ij j0 => by rw [yO i i0, yO j (by omega)]; exact S3 i j i0 ij j0
    have S4' : Srt lt y e b := fun i j i0 ij j0 => by rw [yO i (by omega), yO j (by omega)]; exact S4 i j i0 ij j0
    have yx : Mv a b x y := y2.mono h0 (Int.le_refl _) (by omega)
    have hDy := yx.keeps D hDx
    -- the right part
    obtain ⟨z, z1, z2, z3⟩ : ∃ z, ((if decide (mid < e) = true then some (decide (e < b)) else some false).bind fun x133 => (if x133 = true then ((gs_symMergeCmpFunc fk y mid e b cmp).bind fun y137 => (if y137.length = d.length then some y137 else none)) else (if y.length = d.length then some y else none))) = some z ∧ Mv mid b y z ∧ Srt lt z mid b := by
      by_cases c1 : mid < e
      · rw [if_pos (decide_eq_true c1)]
        by_cases c2 : e < b
        · obtain ⟨z, z1, z2, z3⟩ := ih fk y mid e b (by omega) (by omega) (by omega) c1 c2 (by omega) (by omega) (fun i i0 i1 => hDy i (by omega) i1) S3' S4' (fun i j i0 i1 j0 j1 => by
            rw [yO i i0, yO j (by omega), xC i i0 i1, xD j j0]; exact hL _ _ (by omega) (by omega) (by omega) j1)
          refine ⟨z, ?_, z2, z3⟩
          simp only [Option.bind_some, decide_eq_true c2, if_true, z1]
          rw [if_pos (by rw [z2.len, yl, xl])]
        · refine ⟨y, ?_, Mv.refl _ _ _, ?_⟩
          · simp only [Option.bind_some, decide_eq_false c2, Bool.false_eq_true, if_false]
            rw [if_pos (by rw [yl, xl])]
          · rw [show b = e by omega]; exact S3'
      · refine ⟨y, ?_, Mv.refl _ _ _, ?_⟩
        · simp only [decide_eq_false c1, Option.bind_some, Bool.false_eq_true, if_false]
          rw [if_pos (by rw [yl, xl])]
        · rw [show mid = e by omega]; exact S4'
    refine ⟨z, ?_, (x2.trans yx).trans (z2.mono h0 (by omega) (Int.le_refl _)), fun i j i0 ij j0 => ?_⟩
    · simp only [gs_symMergeCmpFunc, e1, e2, Bool.false_eq_true, if_false, hmid, hlh, Option.bind_some, t1, ee, he, x1, y1]
      exact z1
    · by_cases ci : j < mid
      · rw [z2.out i (by omega) (.inl (by omega)), z2.out j (by omega) (.inl ci)]; exact y3 i j i0 ij ci
      · by_cases cj : mid ≤ i
        · exact z3 i j cj ij j0
        · rw [z2.out i (by omega) (.inl (by omega))]
          refine z2.keeps (fun u => TT lt (gt y i) u) (fun q q0 q1 => ?_) j (by omega) j0
          rw [yO q q0]
          exact y2.keeps (fun u => TT lt u (gt x q)) (fun p p0 p1 => across p q p0 p1 q0 q1) i i0 (by omega)
end Go.Cen
