/- The library's stable sort: insertion, merges. Positions are sorted by a weak order; ties go by the positions themselves. -/
import Derived.Test.YthdoklobbcedcaaSortA
set_option linter.unusedVariables false
set_option linter.unusedSimpArgs false
namespace Go.Cen
structure Wk (lt : Int → Int → Prop) : Prop where
  irr : ∀ x, ¬ lt x x
  tr : ∀ x y z, lt x y → lt y z → lt x z
  ntr : ∀ x y z, ¬ lt x y → ¬ lt y z → ¬ lt x z
def TT (lt : Int → Int → Prop) (x y : Int) : Prop := lt x y ∨ (¬ lt y x ∧ x < y)
theorem TT.trans {lt : Int → Int → Prop} (h : Wk lt) {x y z : Int} (h1 : TT lt x y) (h2 : TT lt y z) : TT lt x z := by
  rcases h1 with h1 | ⟨h1, p1⟩ <;> rcases h2 with h2 | ⟨h2, p2⟩
  · exact .inl (h.tr _ _ _ h1 h2)
  · by_cases c : lt x z
    · exact .inl c
    · exact absurd h1 (h.ntr _ _ _ c h2)
  · by_cases c : lt x z
    · exact .inl c
    · exact absurd h2 (h.ntr _ _ _ h1 c)
  · exact .inr ⟨h.ntr _ _ _ h2 h1, by omega⟩
theorem TT.irr {lt : Int → Int → Prop} (h : Wk lt) (x : Int) : ¬ TT lt x x := by
  rintro (h1 | ⟨_, h1⟩)
  · exact h.irr _ h1
  · omega
/-- the comparison, as far as these positions go -/
def CmpOK (cmp : Int → Int → Option Int) (lt : Int → Int → Prop) (D : Int → Prop) : Prop := ∀ x y, D x → D y → ∃ c, cmp x y = some c ∧ (c < 0 ↔ lt x y)
def Srt (lt : Int → Int → Prop) (d : List Int) (a b : Int) : Prop := ∀ i j, a ≤ i → i < j → j < b → TT lt (gt d i) (gt d j)
def Inc (d : List Int) (a b : Int) : Prop := ∀ i j, a ≤ i → i < j → j < b → gt d i < gt d j
def Dm (D : Int → Prop) (d : List Int) (a b : Int) : Prop := ∀ i, a ≤ i → i < b → D (gt d i)
variable {cmp : Int → Int → Option Int} {lt : Int → Int → Prop} {D : Int → Prop}
theorem Srt.le {lt : Int → Int → Prop} {d : List Int} {a b : Int} (h : Srt lt d a b) {i j : Int} (h0 : a ≤ i) (h1 : i ≤ j) (h2 : j < b) : gt d i = gt d j ∨ TT lt (gt d i) (gt d j) := by
  rcases Int.lt_or_eq_of_le h1 with h | rfl
  · exact .inr (by rename_i h'; exact h' i j h0 h h2)
  · exact .inl rfl

theorem ins_l1 (hc : CmpOK cmp lt D) (hw : Wk lt) {e : List Int} {a i v : Int} (h0 : 0 ≤ a) (hm : (e.length : Int) ≤ 1000000) (hi : i < e.length) (hD : Dm D e a (i + 1)) :
    ∀ (m : Nat) (j : Int) (k : Nat) (x : List Int), j = a + m → j ≤ i → m < k → Mv a (i + 1) e x → gt x j = v → (∀ p q, a ≤ p → p < q → q < i + 1 → p ≠ j → q ≠ j → TT lt (gt x p) (gt x q)) → (∀ q, j < q → q < i + 1 → TT lt v (gt x q)) → (∀ p, a ≤ p → p < i + 1 → p ≠ j → gt x p < v) →
      ∃ r, gs_insertionSortCmpFunc.l1 a cmp k x j = some r ∧ Mv a (i + 1) e r ∧ Srt lt r a (i + 1) := by
  intro m
  induction m with
  | zero =>
    intro j k x hj hji hk hx hv hs hl hp
    obtain ⟨k, rfl⟩ : ∃ m, k = m + 1 := ⟨k - 1, by omega⟩
    have hd : decide (j > a) = false := decide_eq_false (by omega)
    refine ⟨x, by simp [gs_insertionSortCmpFunc.l1, hd], hx, fun p q p0 pq q0 => ?_⟩
    by_cases c : p = j
    · subst c; rw [hv]; exact hl q pq q0
    · exact hs p q p0 pq q0 c (by omega)
  | succ m ih =>
    intro j k x hj hji hk hx hv hs hl hp
    obtain ⟨k, rfl⟩ : ∃ m, k = m + 1 := ⟨k - 1, by omega⟩
    have hd : decide (j > a) = true := decide_eq_true (by omega)
    have hxl := hx.len
    have e1 : wi64 (j - 1) = j - 1 := wi64_id (by omega)
    have g1 : 0 ≤ j ∧ j < (x.length : Int) := by omega
    have g2 : 0 ≤ j - 1 ∧ j - 1 < (x.length : Int) := by omega
    have hDx := hx.keeps D hD
    obtain ⟨c, c1, c2⟩ := hc (gt x j) (gt x (j - 1)) (hDx j (by omega) (by omega)) (hDx (j - 1) (by omega) (by omega))
    by_cases hlt : c < 0
    · have hT : TT lt v (gt x (j - 1)) := .inl (by rw [← hv]; exact c2.1 hlt)
      have gsw := gt_sw x (i := j) (j := j - 1) g1 g2
      obtain ⟨r, r1, r2, r3⟩ := ih (j - 1) k (sw x j (j - 1)) (by omega) (by omega) (by omega) (hx.trans (Mv.sw h0 (by omega) (by omega) (by omega)))
        (by rw [gsw _ g2.1, if_pos rfl, hv])
        (fun p q p0 pq q0 pj qj => by
          rw [gsw p (by omega), gsw q (by omega), if_neg pj, if_neg qj]
          by_cases cp : p = j
          · subst cp; rw [if_pos rfl, if_neg (by omega)]; exact hs _ _ (by omega) (by omega) q0 (by omega) (by omega)
          · rw [if_neg cp]
            by_cases cq : q = j
            · subst cq; rw [if_pos rfl]; exact hs _ _ p0 (by omega) (by omega) cp (by omega)
            · rw [if_neg cq]; exact hs _ _ p0 pq q0 cp cq)
        (fun q q0 q1 => by
          rw [gsw q (by omega), if_neg (by omega)]
          by_cases cq : q = j
          · subst cq; rw [if_pos rfl]; exact hT
          · rw [if_neg cq]; exact hl q (by omega) q1)
        (fun p p0 p1 pj => by
          rw [gsw p (by omega), if_neg pj]
          by_cases cp : p = j
          · subst cp; rw [if_pos rfl]; exact hp _ (by omega) (by omega) (by omega)
          · rw [if_neg cp]; exact hp p p0 p1 cp)
      refine ⟨r, ?_, r2, r3⟩
      have hdc : decide (c < 0) = true := decide_eq_true hlt
      simp only [gs_insertionSortCmpFunc.l1, hd, if_true, e1, g1, g2, and_self, c1, Option.bind_some, hdc, st_length]
      exact r1
    · have hdc : decide (c < 0) = false := decide_eq_false hlt
      have hnl : ¬ lt (gt x j) (gt x (j - 1)) := fun h => hlt (c2.2 h)
      have hT : TT lt (gt x (j - 1)) v := by rw [hv] at hnl; exact .inr ⟨hnl, hp (j - 1) (by omega) (by omega) (by omega)⟩
      refine ⟨x, by simp only [gs_insertionSortCmpFunc.l1, hd, if_true, e1, g1, g2, and_self, c1, Option.bind_some, hdc, Bool.false_eq_true, if_false], hx, fun p q p0 pq q0 => ?_⟩
      by_cases cp : p = j
      · subst cp; rw [hv]; exact hl q pq q0
      · by_cases cq : q = j
        · subst cq
          rw [hv]
          by_cases c3 : p = q - 1
          · rw [c3]; exact hT
          · exact TT.trans hw (hs p (q - 1) p0 (by omega) (by omega) (by omega) (by omega)) hT
        · exact hs p q p0 pq q0 cp cq
theorem ins_l0 (hc : CmpOK cmp lt D) (hw : Wk lt) {d : List Int} {a b : Int} (h0 : 0 ≤ a) (hm : (d.length : Int) ≤ 1000000) (hb : b ≤ d.length) (hD : Dm D d a b) (hI : Inc d a b) :
    ∀ (m : Nat) (i : Int) (k : Nat) (x : List Int), i = b - m → a < i → m < k → Mv a i d x → Srt lt x a i → ∃ r, gs_insertionSortCmpFunc.l0 b a cmp k x i = some r ∧ Mv a b d r ∧ Srt lt r a b := by
  intro m
  induction m with
  | zero =>
    intro i k x hi ha hk hx hs
    obtain ⟨k, rfl⟩ : ∃ m, k = m + 1 := ⟨k - 1, by omega⟩
    obtain rfl : i = b := by omega
    exact ⟨x, by simp [gs_insertionSortCmpFunc.l0], hx, hs⟩
  | succ m ih =>
    intro i k x hi ha hk hx hs
    obtain ⟨k, rfl⟩ : ∃ m, k = m + 1 := ⟨k - 1, by omega⟩
    have hd : decide (i < b) = true := decide_eq_true (by omega)
    have hxl := hx.len
    have e1 : wi64 (i + 1) = i + 1 := wi64_id (by omega)
    have ho : ∀ q, i ≤ q → gt x q = gt d q := fun q hq => hx.out q (by omega) (.inr hq)
    have hDx : Dm D x a (i + 1) := fun p p0 p1 => by
      rcases Int.lt_or_le p i with h | h
      · exact hx.keeps D (fun q q0 q1 => hD q q0 (by omega)) p p0 h
      · rw [ho p h]; exact hD p p0 (by omega)
    obtain ⟨r, r1, r2, r3⟩ := ins_l1 hc hw (e := x) (a := a) (i := i) (v := gt x i) h0 (by omega) (by omega) hDx (i - a).toNat i FU x (by omega) (Int.le_refl _) (by simp [FU]; omega) (Mv.refl _ _ _) rfl
      (fun p q p0 pq q0 pj qj => hs p q p0 pq (by omega)) (fun q q0 q1 => by omega)
      (fun p p0 p1 pj => by
        rw [ho i (Int.le_refl _)]
        exact hx.keeps (fun y => y < gt d i) (fun q q0 q1 => hI q i q0 q1 (by omega)) p p0 (by omega))
    obtain ⟨z, z1, z2, z3⟩ := ih (i + 1) k r (by omega) (by omega) (by omega) ((hx.mono h0 (Int.le_refl _) (by omega)).trans r2) r3
    refine ⟨z, ?_, z2, z3⟩
    simp only [gs_insertionSortCmpFunc.l0, hd, if_true, r1, Option.bind_some, e1]
    exact z1
theorem insertion (hc : CmpOK cmp lt D) (hw : Wk lt) {d : List Int} {a b : Int} (h0 : 0 ≤ a) (hab : a ≤ b) (hm : (d.length : Int) ≤ 1000000) (hb : b ≤ d.length) (hD : Dm D d a b) (hI : Inc d a b) :
    ∃ r, gs_insertionSortCmpFunc d a b cmp = some r ∧ Mv a b d r ∧ Srt lt r a b := by
  have e1 : wi64 (a + 1) = a + 1 := wi64_id (by omega)
  by_cases hlt : a < b
  · obtain ⟨r, r1, r2, r3⟩ := ins_l0 hc hw h0 hm hb hD hI (b - (a + 1)).toNat (a + 1) FU d (by omega) (by omega) (by simp [FU]; omega) (Mv.refl _ _ _) (fun i j i0 ij j0 => by omega)
    refine ⟨r, ?_, r2, r3⟩
    unfold gs_insertionSortCmpFunc
    rw [e1, r1]; simp only [Option.bind_some]; rw [if_pos r2.len]
  · obtain rfl : a = b := by omega
    obtain ⟨m, hF, _⟩ := FU_succ 1 (by omega)
    refine ⟨d, ?_, Mv.refl _ _ _, fun i j i0 ij j0 => by omega⟩
    have hd : decide (a + 1 < a) = false := decide_eq_false (by omega)
    unfold gs_insertionSortCmpFunc
    rw [e1, hF]
    simp [gs_insertionSortCmpFunc.l0, hd]
end Go.Cen
