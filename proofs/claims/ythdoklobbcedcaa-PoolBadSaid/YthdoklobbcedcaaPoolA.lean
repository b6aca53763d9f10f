/- POOL: which places are told, and in which order: the program's. -/
import Derived.Test.YthdoklobbcedcaaSortE
set_option linter.unusedVariables false
set_option linter.unusedSimpArgs false
namespace Go.Cen
/-- the places of [i, i + m) that answer -/
def sel (p : Int → Bool) : Nat → Int → List Int
  | 0, _ => []
  | m + 1, i => (if p i = true then [i] else []) ++ sel p m (i + 1)
theorem mem_sel {p : Int → Bool} : ∀ {m : Nat} {i j : Int}, j ∈ sel p m i ↔ i ≤ j ∧ j < i + m ∧ p j = true
  | 0, i, j => by simp [sel]; omega
  | m + 1, i, j => by
    simp only [sel, List.mem_append, mem_sel]
    constructor
    · rintro (h | ⟨h1, h2, h3⟩)
      · split at h
        · simp at h; subst h; rename_i hp; exact ⟨Int.le_refl _, by omega, hp⟩
        · cases h
      · exact ⟨by omega, by omega, h3⟩
    · rintro ⟨h1, h2, h3⟩
      by_cases c : j = i
      · subst c; left; simp [h3]
      · right; exact ⟨by omega, by omega, h3⟩
theorem sel_pair {p : Int → Bool} : ∀ (m : Nat) (i : Int), (sel p m i).Pairwise (· < ·)
  | 0, i => by simp [sel]
  | m + 1, i => by
    simp only [sel]
    rw [List.pairwise_append]
    refine ⟨by split <;> simp, sel_pair m (i + 1), fun a ha b hb => ?_⟩
    have := (mem_sel.1 hb).1
    split at ha
    · simp at ha; omega
    · cases ha
theorem sel_length {p : Int → Bool} : ∀ (m : Nat) (i : Int), (sel p m i).length ≤ m
  | 0, i => by simp [sel]
  | m + 1, i => by
    have := sel_length (p := p) m (i + 1)
    simp only [sel, List.length_append]
    split <;> simp <;> omega
theorem gt_mem {xs : List Int} {j : Int} (h0 : 0 ≤ j) (h : j < xs.length) : gt xs j ∈ xs := by
  obtain ⟨hl, e⟩ := gt_lt xs h0 h
  rw [e]; exact List.getElem_mem _
theorem mem_gt {xs : List Int} {v : Int} (h : v ∈ xs) : ∃ j : Int, 0 ≤ j ∧ j < xs.length ∧ gt xs j = v := by
  obtain ⟨n, hn, e⟩ := List.getElem_of_mem h
  refine ⟨(n : Int), by omega, by omega, ?_⟩
  obtain ⟨hl, e2⟩ := gt_lt xs (j := (n : Int)) (by omega) (by omega)
  rw [e2]; simpa using e
theorem inc_of_pair {xs : List Int} (h : xs.Pairwise (· < ·)) : Inc xs 0 xs.length := by
  intro i j i0 ij j0
  obtain ⟨l1, e1⟩ := gt_lt xs i0 (by omega)
  obtain ⟨l2, e2⟩ := gt_lt xs (j := j) (by omega) j0
  rw [e1, e2]
  exact List.pairwise_iff_getElem.1 h _ _ l1 l2 (by omega)
/-- told in order -/
structure Told (lt : Int → Int → Prop) (p : Int → Bool) (n : Nat) (r : List Int) : Prop where
  mem : ∀ j, j ∈ r ↔ 0 ≤ j ∧ j < n ∧ p j = true
  srt : Srt lt r 0 r.length
  len : r.length ≤ n
  cnt : r.length = (sel p n 0).length
theorem told_of {cmp : Int → Int → Option Int} {lt : Int → Int → Prop} {p : Int → Bool} {n : Nat} (hw : Wk lt) (hc : CmpOK cmp lt (fun i => 0 ≤ i ∧ i < n)) (hn : n ≤ 64) :
    ∃ r, gs_SortStableFunc (sel p n 0) cmp = some r ∧ Told lt p n r := by
  have hl := sel_length (p := p) n 0
  obtain ⟨r, r1, r2, r3⟩ := stable hc hw (d := sel p n 0) (n := ((sel p n 0).length : Int)) rfl (by omega) (fun i i0 i1 => by have := mem_sel.1 (gt_mem i0 i1); exact ⟨by omega, by omega⟩) (inc_of_pair (sel_pair n 0))
  have hrl := r2.len
  refine ⟨r, r1, fun j => ?_, by rw [hrl]; exact r3, by omega, hrl⟩
  rw [r2.perm.mem_iff, mem_sel, Int.zero_add]
/-- the first of those told -/
def IsMin (lt : Int → Int → Prop) (p : Int → Bool) (n : Int) (F : Int) : Prop :=
  (F = -1 ∧ ∀ i, 0 ≤ i → i < n → p i = false) ∨ (0 ≤ F ∧ F < n ∧ p F = true ∧ ∀ j, 0 ≤ j → j < n → p j = true → j ≠ F → TT lt F j)
theorem IsMin.uniq {lt : Int → Int → Prop} {p : Int → Bool} {n F G : Int} (hw : Wk lt) (h : IsMin lt p n F) (k : IsMin lt p n G) : F = G := by
  rcases h with ⟨rfl, h⟩ | ⟨h0, h1, h2, h3⟩ <;> rcases k with ⟨rfl, k⟩ | ⟨k0, k1, k2, k3⟩
  · rfl
  · rw [h G k0 k1] at k2; cases k2
  · rw [k F h0 h1] at h2; cases h2
  · by_cases c : G = F
    · exact c.symm
    · exact absurd (TT.trans hw (h3 G k0 k1 k2 c) (k3 F h0 h1 h2 (fun e => c e.symm))) (TT.irr hw F)
theorem IsMin.zero (lt : Int → Int → Prop) (p : Int → Bool) : IsMin lt p 0 (-1) := .inl ⟨rfl, fun i h0 h1 => by omega⟩
/-- one more place is looked at -/
theorem IsMin.step {lt : Int → Int → Prop} {p : Int → Bool} {i F : Int} (hw : Wk lt) (h0 : 0 ≤ i) (h : IsMin lt p i F) {G : Int}
    (hG : (p i = false ∧ G = F) ∨ (p i = true ∧ ((F < 0 ∧ G = i) ∨ (0 ≤ F ∧ ((lt i F ∧ G = i) ∨ (¬ lt i F ∧ G = F)))))) : IsMin lt p (i + 1) G := by
  rcases hG with ⟨hp, rfl⟩ | ⟨hp, hG⟩
  · rcases h with ⟨e, h⟩ | ⟨k0, k1, k2, k3⟩
    · exact .inl ⟨e, fun j j0 j1 => by
        by_cases c : j = i
        · rw [c]; exact hp
        · exact h j j0 (by omega)⟩
    · refine .inr ⟨k0, by omega, k2, fun j j0 j1 j2 j3 => ?_⟩
      by_cases c : j = i
      · rw [c, hp] at j2; cases j2
      · exact k3 j j0 (by omega) j2 j3
  · rcases h with ⟨e, h⟩ | ⟨k0, k1, k2, k3⟩
    · subst e
      have : G = i := by
        rcases hG with ⟨_, e⟩ | ⟨h, _⟩
        · exact e
        · omega
      subst this
      refine .inr ⟨h0, by omega, hp, fun j j0 j1 j2 j3 => ?_⟩
      rw [h j j0 (by omega)] at j2; cases j2
    · rcases hG with ⟨h, _⟩ | ⟨_, ⟨hl, rfl⟩ | ⟨hl, rfl⟩⟩
      · omega
      · refine .inr ⟨h0, by omega, hp, fun j j0 j1 j2 j3 => ?_⟩
        by_cases c : j = F
        · rw [c]; exact .inl hl
        · exact TT.trans hw (.inl hl) (k3 j j0 (by omega) j2 c)
      · refine .inr ⟨k0, by omega, k2, fun j j0 j1 j2 j3 => ?_⟩
        by_cases c : j = i
        · rw [c]; exact .inr ⟨hl, by omega⟩
        · exact k3 j j0 (by omega) j2 j3
theorem Told.first {lt : Int → Int → Prop} {p : Int → Bool} {n : Nat} {r : List Int} (h : Told lt p n r) : ∃ F, pool_first r = some F ∧ IsMin lt p n F := by
  by_cases c : r = []
  · subst c
    refine ⟨-1, rfl, .inl ⟨rfl, fun i i0 i1 => ?_⟩⟩
    cases hp : p i with
    | false => rfl
    | true => have := (h.mem i).2 ⟨i0, i1, hp⟩; cases this
  · have hl : 0 < r.length := List.length_pos_iff.2 c
    have hm := (h.mem _).1 (gt_mem (xs := r) (j := 0) (Int.le_refl _) (by omega))
    refine ⟨gt r 0, ?_, .inr ⟨hm.1, hm.2.1, hm.2.2, fun j j0 j1 j2 j3 => ?_⟩⟩
    · unfold pool_first
      rw [if_neg (by simp; omega), if_pos ⟨Int.le_refl _, by omega⟩]
    · obtain ⟨t, t0, t1, rfl⟩ := mem_gt ((h.mem j).2 ⟨j0, j1, j2⟩)
      by_cases ct : t = 0
      · subst ct; exact absurd rfl j3
      · exact h.srt 0 t (Int.le_refl _) (by omega) t1
/-! ### the program's -/
def pFree (us : List PoolUse) (i : Int) : Bool := !(gt us i).Bad && (!(gt us i).Keep && decide ((gt us i).Live ≤ 0))
def pLives (us : List PoolUse) (i : Int) : Bool := !(gt us i).Bad && (!(gt us i).Keep && decide ((gt us i).Live > 0))
def pVic (us : List PoolUse) (c : Int) (i : Int) : Bool := pLives us i && decide ((gt us i).Live < c)
def ltW (us : List PoolUse) (i j : Int) : Prop := (gt us i).Worn < (gt us j).Worn
def ltLW (us : List PoolUse) (i j : Int) : Prop := (gt us i).Live < (gt us j).Live ∨ ((gt us i).Live = (gt us j).Live ∧ (gt us i).Worn < (gt us j).Worn)
theorem wkW (us : List PoolUse) : Wk (ltW us) := ⟨fun x => by unfold ltW; omega, fun x y z => by unfold ltW; omega, fun x y z => by unfold ltW; omega⟩
theorem wkLW (us : List PoolUse) : Wk (ltLW us) := ⟨fun x => by unfold ltLW; omega, fun x y z => by unfold ltLW; omega, fun x y z => by unfold ltLW; omega⟩
theorem compare_eq (a b : Int) : cmp_Compare a b = some (if a < b then -1 else if b < a then 1 else 0) := by
  unfold cmp_Compare cmp_isNaN
  simp only [Option.bind_some, bne_self_eq_false, Bool.false_eq_true, if_false]
  by_cases h : a < b
  · simp [h]
  · by_cases k : b < a
    · simp [h, k]
    · simp [h, k]
theorem cmpW (us : List PoolUse) : CmpOK (fun a b => pool_places_1 a b us) (ltW us) (fun i => 0 ≤ i ∧ i < us.length) := by
  intro x y hx hy
  refine ⟨if (gt us x).Worn < (gt us y).Worn then -1 else if (gt us y).Worn < (gt us x).Worn then 1 else 0, ?_, ?_⟩
  · show pool_places_1 x y us = _
    unfold pool_places_1 pool_byWorn
    rw [if_pos hx, if_pos hy, compare_eq]; rfl
  · unfold ltW
    repeat' split
    all_goals omega
theorem or2 (a b : Int) : cmp_Or [a, b] = some (if a ≠ 0 then a else b) := by
  obtain ⟨m, hF, _⟩ := FU_succ 3 (by omega)
  have e1 : wi64 1 = 1 := by decide +kernel
  have e2 : wi64 2 = 2 := by decide +kernel
  have g0 : ∀ a b : Int, gt [a, b] 0 = a := fun _ _ => rfl
  have g1 : ∀ a b : Int, gt [a, b] 1 = b := fun _ _ => rfl
  unfold cmp_Or
  rw [hF]
  by_cases ha : a = 0
  · by_cases hb : b = 0
    · subst ha hb; simp [cmp_Or.l0, e1, e2, g0, g1]
    · subst ha; simp [cmp_Or.l0, e1, e2, g0, g1, hb]
  · simp [cmp_Or.l0, e1, e2, g0, g1, ha]
theorem cmpLW (us : List PoolUse) : CmpOK (fun a b => pool_places_1' a b us) (ltLW us) (fun i => 0 ≤ i ∧ i < us.length) := by
  intro x y hx hy
  refine ⟨if (if (gt us x).Live < (gt us y).Live then (-1 : Int) else if (gt us y).Live < (gt us x).Live then 1 else 0) ≠ 0 then (if (gt us x).Live < (gt us y).Live then (-1 : Int) else if (gt us y).Live < (gt us x).Live then 1 else 0) else (if (gt us x).Worn < (gt us y).Worn then -1 else if (gt us y).Worn < (gt us x).Worn then 1 else 0), ?_, ?_⟩
  · show pool_places_1' x y us = _
    unfold pool_places_1' pool_Victim_2 pool_byWorn
    rw [if_pos hx, if_pos hy, compare_eq, compare_eq]
    simp only [Option.bind_some, or2]
  · unfold ltLW
    repeat' split
    all_goals first | omega | (simp at *; omega)
theorem use_free (us : List PoolUse) (i : Int) : pool_Use_free (gt us i) = some (pFree us i) := by
  unfold pool_Use_free pFree
  cases (gt us i).Bad <;> cases (gt us i).Keep <;> rfl
theorem use_lives (us : List PoolUse) (i : Int) : pool_Use_lives (gt us i) = some (pLives us i) := by
  unfold pool_Use_lives pLives
  cases (gt us i).Bad <;> cases (gt us i).Keep <;> rfl
theorem victim1 (us : List PoolUse) (c i : Int) : pool_Victim_1 (gt us i) c = some (pVic us c i) := by
  unfold pool_Victim_1 pVic
  rw [use_lives]
  cases pLives us i <;> rfl
theorem places_l0 {us : List PoolUse} (hm : us.length ≤ 1000) : ∀ (m : Nat) (i : Int) (k : Nat) (acc : List Int), i = us.length - m → 0 ≤ i → m < k → acc.length ≤ i → pool_places.l0 us k acc i = some (acc ++ sel (pFree us) m i) := by
  intro m
  induction m with
  | zero =>
    intro i k acc hi h0 hk _
    obtain ⟨k, rfl⟩ : ∃ m, k = m + 1 := ⟨k - 1, by omega⟩
    simp [pool_places.l0, decide_eq_false (show ¬ i < (us.length : Int) by omega), sel]
  | succ m ih =>
    intro i k acc hi h0 hk hl
    obtain ⟨k, rfl⟩ : ∃ m, k = m + 1 := ⟨k - 1, by omega⟩
    have hd : decide (i < (us.length : Int)) = true := decide_eq_true (by omega)
    have g : 0 ≤ i ∧ i < (us.length : Int) := by omega
    have e1 : wi64 (i + 1) = i + 1 := wi64_id (by omega)
    have gl : acc.length + ([i] : List Int).length ≤ LIM := by simp [LIM]; omega
    simp only [pool_places.l0, hd, if_true, g, and_self, use_free, Option.bind_some, gl, e1]
    cases hp : pFree us i with
    | true => simp only [if_true, Option.bind_some]; rw [ih (i + 1) k _ (by omega) (by omega) (by omega) (by simp; omega)]; simp [sel, hp]
    | false => simp only [Bool.false_eq_true, if_false, Option.bind_some]; rw [ih (i + 1) k _ (by omega) (by omega) (by omega) (by omega)]; simp [sel, hp]
theorem places_l0' {us : List PoolUse} {c : Int} (hm : us.length ≤ 1000) : ∀ (m : Nat) (i : Int) (k : Nat) (acc : List Int), i = us.length - m → 0 ≤ i → m < k → acc.length ≤ i → pool_places'.l0 us c k acc i = some (acc ++ sel (pVic us c) m i) := by
  intro m
  induction m with
  | zero =>
    intro i k acc hi h0 hk _
    obtain ⟨k, rfl⟩ : ∃ m, k = m + 1 := ⟨k - 1, by omega⟩
    simp [pool_places'.l0, decide_eq_false (show ¬ i < (us.length : Int) by omega), sel]
  | succ m ih =>
    intro i k acc hi h0 hk hl
    obtain ⟨k, rfl⟩ : ∃ m, k = m + 1 := ⟨k - 1, by omega⟩
    have hd : decide (i < (us.length : Int)) = true := decide_eq_true (by omega)
    have g : 0 ≤ i ∧ i < (us.length : Int) := by omega
    have e1 : wi64 (i + 1) = i + 1 := wi64_id (by omega)
    have gl : acc.length + ([i] : List Int).length ≤ LIM := by simp [LIM]; omega
    simp only [pool_places'.l0, hd, if_true, g, and_self, victim1, Option.bind_some, gl, e1]
    cases hp : pVic us c i with
    | true => simp only [if_true, Option.bind_some]; rw [ih (i + 1) k _ (by omega) (by omega) (by omega) (by simp; omega)]; simp [sel, hp]
    | false => simp only [Bool.false_eq_true, if_false, Option.bind_some]; rw [ih (i + 1) k _ (by omega) (by omega) (by omega) (by omega)]; simp [sel, hp]
theorem places_l0'' {us : List PoolUse} (hm : us.length ≤ 1000) : ∀ (m : Nat) (i : Int) (k : Nat) (acc : List Int), i = us.length - m → 0 ≤ i → m < k → acc.length ≤ i → pool_places''.l0 us k acc i = some (acc ++ sel (pLives us) m i) := by
  intro m
  induction m with
  | zero =>
    intro i k acc hi h0 hk _
    obtain ⟨k, rfl⟩ : ∃ m, k = m + 1 := ⟨k - 1, by omega⟩
    simp [pool_places''.l0, decide_eq_false (show ¬ i < (us.length : Int) by omega), sel]
  | succ m ih =>
    intro i k acc hi h0 hk hl
    obtain ⟨k, rfl⟩ : ∃ m, k = m + 1 := ⟨k - 1, by omega⟩
    have hd : decide (i < (us.length : Int)) = true := decide_eq_true (by omega)
    have g : 0 ≤ i ∧ i < (us.length : Int) := by omega
    have e1 : wi64 (i + 1) = i + 1 := wi64_id (by omega)
    have gl : acc.length + ([i] : List Int).length ≤ LIM := by simp [LIM]; omega
    simp only [pool_places''.l0, hd, if_true, g, and_self, use_lives, Option.bind_some, gl, e1]
    cases hp : pLives us i with
    | true => simp only [if_true, Option.bind_some]; rw [ih (i + 1) k _ (by omega) (by omega) (by omega) (by simp; omega)]; simp [sel, hp]
    | false => simp only [Bool.false_eq_true, if_false, Option.bind_some]; rw [ih (i + 1) k _ (by omega) (by omega) (by omega) (by omega)]; simp [sel, hp]
theorem free_told {us : List PoolUse} (hn : us.length ≤ 64) : ∃ r, pool_Free us = some r ∧ Told (ltW us) (pFree us) us.length r := by
  obtain ⟨r, r1, r2⟩ := told_of (p := pFree us) (wkW us) (cmpW us) hn
  refine ⟨r, ?_, r2⟩
  unfold pool_Free pool_places
  rw [places_l0 (by omega) us.length 0 FU [] (by omega) (by omega) (by simp [FU]; omega) (by simp)]
  simp only [List.nil_append, Option.bind_some, eq0_slices_SortStableFunc, r1]
theorem pick_min {us : List PoolUse} (hn : us.length ≤ 64) : ∃ F, pool_Pick us = some F ∧ IsMin (ltW us) (pFree us) us.length F := by
  obtain ⟨r, r1, r2⟩ := free_told hn
  obtain ⟨F, f1, f2⟩ := r2.first
  exact ⟨F, by unfold pool_Pick; rw [r1]; simp only [Option.bind_some, f1], f2⟩
theorem victim_min {us : List PoolUse} (hn : us.length ≤ 64) (c : Int) : ∃ F, pool_Victim us c = some F ∧ IsMin (ltLW us) (pVic us c) us.length F := by
  obtain ⟨r, r1, r2⟩ := told_of (p := pVic us c) (wkLW us) (cmpLW us) hn
  obtain ⟨F, f1, f2⟩ := r2.first
  refine ⟨F, ?_, f2⟩
  unfold pool_Victim pool_places'
  rw [places_l0' (by omega) us.length 0 FU [] (by omega) (by omega) (by simp [FU]; omega) (by simp)]
  simp only [List.nil_append, Option.bind_some, eq1_slices_SortStableFunc, r1, f1]
theorem lives_told {us : List PoolUse} (hn : us.length ≤ 64) : ∃ r F, pool_places'' us = some r ∧ pool_first r = some F ∧ IsMin (ltW us) (pLives us) us.length F := by
  obtain ⟨r, r1, r2⟩ := told_of (p := pLives us) (wkW us) (cmpW us) hn
  obtain ⟨F, f1, f2⟩ := r2.first
  refine ⟨r, F, ?_, f1, f2⟩
  unfold pool_places''
  rw [places_l0'' (by omega) us.length 0 FU [] (by omega) (by omega) (by simp [FU]; omega) (by simp)]
  simp only [List.nil_append, Option.bind_some, eq0_slices_SortStableFunc, r1]
end Go.Cen
