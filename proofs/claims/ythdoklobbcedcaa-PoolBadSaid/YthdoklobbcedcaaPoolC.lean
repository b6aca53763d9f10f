/- POOL: the reference's victim, evenness, room; that the program works at a few; the law of the whole. -/
import Derived.Test.YthdoklobbcedcaaPoolB
set_option linter.unusedVariables false
set_option linter.unusedSimpArgs false
set_option maxRecDepth 100000
namespace Go.Cen
theorem min_range {lt : Int → Int → Prop} {p : Int → Bool} {i x : Int} (h : IsMin lt p i x) : x < 0 ∨ (0 ≤ x ∧ x < i) := by
  rcases h with ⟨e, _⟩ | ⟨a, b, _⟩
  · left; omega
  · right; exact ⟨a, b⟩
theorem rvictim_l0 {us : List PoolUse} {cc : Int} (hm : us.length ≤ 1000) : ∀ (m : Nat) (i : Int) (k : Nat) (x : Int), i = us.length - m → 0 ≤ i → m < k → IsMin (ltLW us) (pVic us cc) i x →
    ∃ F, ref17_Victim.l0 (us.map cv) cc k x i = some F ∧ IsMin (ltLW us) (pVic us cc) us.length F := by
  intro m
  induction m with
  | zero =>
    intro i k x hi h0 hk hx
    obtain ⟨k, rfl⟩ : ∃ m, k = m + 1 := ⟨k - 1, by omega⟩
    have : i = us.length := by omega
    exact ⟨x, by simp [ref17_Victim.l0, decide_eq_false (show ¬ i < (us.length : Int) by omega)], by rw [← this]; exact hx⟩
  | succ m ih =>
    intro i k x hi h0 hk hx
    obtain ⟨k, rfl⟩ : ∃ m, k = m + 1 := ⟨k - 1, by omega⟩
    have d1 : decide (i < ((us.map cv).length : Int)) = true := decide_eq_true (by simp; omega)
    have g : 0 ≤ i ∧ i < ((us.map cv).length : Int) := by simp; omega
    have e1 : wi64 (i + 1) = i + 1 := wi64_id (by omega)
    have gi := gt_cv us h0 (by omega : i < us.length)
    have go : ∀ G, (pVic us cc i = false ∧ G = x) ∨ (pVic us cc i = true ∧ ((x < 0 ∧ G = i) ∨ (0 ≤ x ∧ ((ltLW us i x ∧ G = i) ∨ (¬ ltLW us i x ∧ G = x))))) → ∃ F, ref17_Victim.l0 (us.map cv) cc k G (i + 1) = some F ∧ IsMin (ltLW us) (pVic us cc) us.length F :=
      fun G hG => ih (i + 1) k G (by omega) (by omega) (by omega) (hx.step (wkLW us) h0 hG)
    simp only [ref17_Victim.l0, d1, if_true, g, and_self, gi, e1]
    rw [show (cv (gt us i)).Bad = (gt us i).Bad from rfl, show (cv (gt us i)).Keep = (gt us i).Keep from rfl, show (cv (gt us i)).Live = (gt us i).Live from rfl, show (cv (gt us i)).Worn = (gt us i).Worn from rfl]
    cases hb : (gt us i).Bad with
    | true => simp only [if_true, Option.bind_some]; exact go x (.inl ⟨by simp [pVic, pLives, hb], rfl⟩)
    | false =>
      cases hk' : (gt us i).Keep with
      | true => simp only [Bool.false_eq_true, if_false, if_true, Option.bind_some]; exact go x (.inl ⟨by simp [pVic, pLives, hk'], rfl⟩)
      | false =>
        by_cases hl : (gt us i).Live ≤ 0
        · simp only [Bool.false_eq_true, if_false, decide_eq_true hl, if_true, Option.bind_some]
          exact go x (.inl ⟨by simp [pVic, pLives, hb, hk']; omega, rfl⟩)
        · by_cases hc : (gt us i).Live ≥ cc
          · simp only [Bool.false_eq_true, if_false, decide_eq_false hl, decide_eq_true hc, if_true, Option.bind_some]
            exact go x (.inl ⟨by simp [pVic, pLives, hb, hk']; omega, rfl⟩)
          · have hp : pVic us cc i = true := by simp [pVic, pLives, hb, hk']; omega
            simp only [Bool.false_eq_true, if_false, decide_eq_false hl, decide_eq_false hc, Option.bind_some]
            by_cases c : x < 0
            · simp only [decide_eq_true c, if_true, Option.bind_some]; exact go i (.inr ⟨hp, .inl ⟨c, rfl⟩⟩)
            · have hxr : 0 ≤ x ∧ x < ((us.map cv).length : Int) := by
                rcases min_range hx with h | h
                · omega
                · simp; omega
              have gx := gt_cv us hxr.1 (by have := hxr.2; simp at this; omega : x < us.length)
              simp only [decide_eq_false c, Bool.false_eq_true, if_false, hxr, and_self, if_true, gx]
              rw [show (cv (gt us x)).Live = (gt us x).Live from rfl, show (cv (gt us x)).Worn = (gt us x).Worn from rfl]
              by_cases l1 : (gt us i).Live < (gt us x).Live
              · simp only [decide_eq_true l1, if_true, Option.bind_some]; exact go i (.inr ⟨hp, .inr ⟨hxr.1, .inl ⟨.inl l1, rfl⟩⟩⟩)
              · by_cases l2 : (gt us i).Live = (gt us x).Live
                · have l2b : ((gt us i).Live == (gt us x).Live) = true := by simpa using l2
                  by_cases l3 : (gt us i).Worn < (gt us x).Worn
                  · simp only [decide_eq_false l1, Bool.false_eq_true, if_false, l2b, if_true, decide_eq_true l3, Option.bind_some]
                    exact go i (.inr ⟨hp, .inr ⟨hxr.1, .inl ⟨.inr ⟨l2, l3⟩, rfl⟩⟩⟩)
                  · simp only [decide_eq_false l1, Bool.false_eq_true, if_false, l2b, if_true, decide_eq_false l3, Option.bind_some]
                    exact go x (.inr ⟨hp, .inr ⟨hxr.1, .inr ⟨by unfold ltLW; omega, rfl⟩⟩⟩)
                · have : ((gt us i).Live == (gt us x).Live) = false := by simpa using l2
                  simp only [decide_eq_false l1, Bool.false_eq_true, if_false, this, Option.bind_some]
                  exact go x (.inr ⟨hp, .inr ⟨hxr.1, .inr ⟨by unfold ltLW; omega, rfl⟩⟩⟩)
theorem rvictim {us : List PoolUse} (hm : us.length ≤ 1000) (cc : Int) : ∃ F, ref17_Victim (us.map cv) cc = some F ∧ IsMin (ltLW us) (pVic us cc) us.length F := by
  obtain ⟨F, f1, f2⟩ := rvictim_l0 (cc := cc) hm us.length 0 FU (-1) (by omega) (by omega) (by simp [FU]; omega) (IsMin.zero _ _)
  exact ⟨F, by unfold ref17_Victim; rw [f1]; rfl, f2⟩
theorem reven_l0 {us : List PoolUse} (hm : us.length ≤ 1000) : ∀ (m : Nat) (i : Int) (k : Nat) (x : Int), i = us.length - m → 0 ≤ i → m < k → IsMin (ltW us) (pLives us) i x →
    ∃ F, ref17_Even.l0 (us.map cv) k x i = some F ∧ IsMin (ltW us) (pLives us) us.length F := by
  intro m
  induction m with
  | zero =>
    intro i k x hi h0 hk hx
    obtain ⟨k, rfl⟩ : ∃ m, k = m + 1 := ⟨k - 1, by omega⟩
    have : i = us.length := by omega
    exact ⟨x, by simp [ref17_Even.l0, decide_eq_false (show ¬ i < (us.length : Int) by omega)], by rw [← this]; exact hx⟩
  | succ m ih =>
    intro i k x hi h0 hk hx
    obtain ⟨k, rfl⟩ : ∃ m, k = m + 1 := ⟨k - 1, by omega⟩
    have d1 : decide (i < ((us.map cv).length : Int)) = true := decide_eq_true (by simp; omega)
    have g : 0 ≤ i ∧ i < ((us.map cv).length : Int) := by simp; omega
    have e1 : wi64 (i + 1) = i + 1 := wi64_id (by omega)
    have gi := gt_cv us h0 (by omega : i < us.length)
    have go : ∀ G, (pLives us i = false ∧ G = x) ∨ (pLives us i = true ∧ ((x < 0 ∧ G = i) ∨ (0 ≤ x ∧ ((ltW us i x ∧ G = i) ∨ (¬ ltW us i x ∧ G = x))))) → ∃ F, ref17_Even.l0 (us.map cv) k G (i + 1) = some F ∧ IsMin (ltW us) (pLives us) us.length F :=
      fun G hG => ih (i + 1) k G (by omega) (by omega) (by omega) (hx.step (wkW us) h0 hG)
    simp only [ref17_Even.l0, d1, if_true, g, and_self, gi, e1]
    rw [show (cv (gt us i)).Bad = (gt us i).Bad from rfl, show (cv (gt us i)).Keep = (gt us i).Keep from rfl, show (cv (gt us i)).Live = (gt us i).Live from rfl, show (cv (gt us i)).Worn = (gt us i).Worn from rfl]
    cases hb : (gt us i).Bad with
    | true => simp only [Bool.not_true, Bool.false_eq_true, if_false, Option.bind_some]; exact go x (.inl ⟨by simp [pLives, hb], rfl⟩)
    | false =>
      cases hk' : (gt us i).Keep with
      | true => simp only [Bool.not_true, Bool.not_false, Bool.false_eq_true, if_false, if_true, Option.bind_some]; exact go x (.inl ⟨by simp [pLives, hk'], rfl⟩)
      | false =>
        by_cases hl : (gt us i).Live > 0
        · have hp : pLives us i = true := by simp [pLives, hb, hk']; omega
          simp only [Bool.not_false, if_true, decide_eq_true hl]
          by_cases c : x < 0
          · simp only [decide_eq_true c, if_true, Option.bind_some]; exact go i (.inr ⟨hp, .inl ⟨c, rfl⟩⟩)
          · have hxr : 0 ≤ x ∧ x < ((us.map cv).length : Int) := by
              rcases min_range hx with h | h
              · omega
              · simp; omega
            have gx := gt_cv us hxr.1 (by have := hxr.2; simp at this; omega : x < us.length)
            simp only [decide_eq_false c, Bool.false_eq_true, if_false, hxr, and_self, if_true, gx, Option.bind_some]
            rw [show (cv (gt us x)).Worn = (gt us x).Worn from rfl]
            by_cases l3 : (gt us i).Worn < (gt us x).Worn
            · simp only [decide_eq_true l3, if_true, Option.bind_some]; exact go i (.inr ⟨hp, .inr ⟨hxr.1, .inl ⟨l3, rfl⟩⟩⟩)
            · simp only [decide_eq_false l3, Bool.false_eq_true, if_false, Option.bind_some]; exact go x (.inr ⟨hp, .inr ⟨hxr.1, .inr ⟨l3, rfl⟩⟩⟩)
        · simp only [Bool.not_false, if_true, decide_eq_false hl, Bool.false_eq_true, if_false, Option.bind_some]
          exact go x (.inl ⟨by simp [pLives, hb, hk']; omega, rfl⟩)
/-- a free place so much worn that evenness is asked -/
def far (us : List PoolUse) (F j : Int) : Bool := pFree us j && decide (wi64 ((gt us j).Worn - 8) ≥ (gt us F).Worn)
theorem idx_l0 {us : List PoolUse} {F : Int} (hF : 0 ≤ F ∧ F < us.length) (hm : us.length ≤ 1000) : ∀ (m : Nat) (i : Int) (k k' : Nat), i = us.length - m → 0 ≤ i → m < k → m < k' →
    (∃ j, 0 ≤ j ∧ slices_IndexFunc.l0 us us F k i = some (.inl j) ∧ ref17_Even.l1 (us.map cv) F k' i = some (.inl F)) ∨ (slices_IndexFunc.l0 us us F k i = some (.inr ()) ∧ ref17_Even.l1 (us.map cv) F k' i = some (.inr ())) := by
  intro m
  induction m with
  | zero =>
    intro i k k' hi h0 hk hk'
    obtain ⟨k, rfl⟩ : ∃ m, k = m + 1 := ⟨k - 1, by omega⟩
    obtain ⟨k', rfl⟩ : ∃ m, k' = m + 1 := ⟨k' - 1, by omega⟩
    right
    simp [slices_IndexFunc.l0, ref17_Even.l1, decide_eq_false (show ¬ i < (us.length : Int) by omega)]
  | succ m ih =>
    intro i k k' hi h0 hk hk'
    obtain ⟨k, rfl⟩ : ∃ m, k = m + 1 := ⟨k - 1, by omega⟩
    obtain ⟨k', rfl⟩ : ∃ m, k' = m + 1 := ⟨k' - 1, by omega⟩
    have d1 : decide (i < ((us.map cv).length : Int)) = true := decide_eq_true (by simp; omega)
    have d1' : decide (i < (us.length : Int)) = true := decide_eq_true (by omega)
    have d2 : decide (F ≥ 0) = true := decide_eq_true hF.1
    have g : 0 ≤ i ∧ i < ((us.map cv).length : Int) := by simp; omega
    have g' : 0 ≤ i ∧ i < (us.length : Int) := by omega
    have gF : 0 ≤ F ∧ F < ((us.map cv).length : Int) := by simp; omega
    have gF' : 0 ≤ F ∧ F < (us.length : Int) := by omega
    have e1 : wi64 (i + 1) = i + 1 := wi64_id (by omega)
    have gi := gt_cv us h0 (by omega : i < us.length)
    have gx := gt_cv us hF.1 hF.2
    have E1 : pool_Even_1 (gt us i) us F = some (far us F i) := by
      unfold pool_Even_1 far
      rw [use_free]
      cases hp : pFree us i with
      | true => simp only [Option.bind_some, if_true, gF', and_self, Bool.true_and]
      | false => simp only [Option.bind_some, Bool.false_eq_true, if_false, Bool.false_and]
    simp only [slices_IndexFunc.l0, ref17_Even.l1, d1, d1', d2, if_true, g, g', and_self, gi, gx, e1, E1, rfree, Option.bind_some, gF]
    rw [show (cv (gt us i)).Worn = (gt us i).Worn from rfl, show (cv (gt us F)).Worn = (gt us F).Worn from rfl]
    cases hp : pFree us i with
    | false =>
      have : far us F i = false := by simp [far, hp]
      simp only [this, Bool.false_eq_true, if_false, Option.bind_some]
      exact ih (i + 1) k k' (by omega) (by omega) (by omega) (by omega)
    | true =>
      cases hq : decide (wi64 ((gt us i).Worn - 8) ≥ (gt us F).Worn) with
      | true =>
        have : far us F i = true := by simp [far, hp]; simpa using hq
        left; exact ⟨i, h0, by simp [this], by simp⟩
      | false =>
        have : far us F i = false := by simp only [far, hp, hq, Bool.true_and]
        simp only [this, Bool.false_eq_true, if_false, if_true, Option.bind_some]
        exact ih (i + 1) k k' (by omega) (by omega) (by omega) (by omega)
theorem even_both {us : List PoolUse} (hn : us.length ≤ 64) : ∃ G, pool_Even us = some G ∧ ref17_Even (us.map cv) = some G ∧ (G = -1 ∨ (0 ≤ G ∧ G < us.length ∧ pLives us G = true)) := by
  obtain ⟨r, F, r1, r2, r3⟩ := lives_told hn
  obtain ⟨F', f1, f2⟩ := reven_l0 (us := us) (by omega) us.length 0 FU (-1) (by omega) (by omega) (by simp [FU]; omega) (IsMin.zero _ _)
  obtain rfl := IsMin.uniq (wkW us) r3 f2
  unfold pool_Even ref17_Even
  rw [r1, f1]
  simp only [Option.bind_some, r2]
  rcases r3 with ⟨rfl, _⟩ | ⟨a, b, c, _⟩
  · obtain ⟨m, hF, _⟩ := FU_succ 1 (by omega)
    have : ref17_Even.l1 (us.map cv) (-1) FU 0 = some (.inr ()) := by
      rw [hF]
      simp only [ref17_Even.l1, show decide ((-1 : Int) ≥ 0) = false from rfl]
      cases decide ((0 : Int) < ((us.map cv).length : Int)) <;> rfl
    refine ⟨-1, by simp, by rw [this]; rfl, .inl rfl⟩
  · have hneg : decide (F < 0) = false := decide_eq_false (by omega)
    rcases idx_l0 ⟨a, b⟩ (by omega) us.length 0 FU FU (by omega) (by omega) (by simp [FU]; omega) (by simp [FU]; omega) with ⟨j, j0, h1, h2⟩ | ⟨h1, h2⟩
    · refine ⟨F, ?_, by rw [h2]; rfl, .inr ⟨a, b, c⟩⟩
      simp only [hneg, Bool.false_eq_true, if_false, slices_ContainsFunc, slices_IndexFunc, h1, Option.bind_some, decide_eq_true (show j ≥ 0 from j0), Bool.not_true]
    · refine ⟨-1, ?_, by rw [h2]; rfl, .inl rfl⟩
      simp only [hneg, Bool.false_eq_true, if_false, slices_ContainsFunc, slices_IndexFunc, h1, Option.bind_some, show decide ((-1 : Int) ≥ 0) = false from rfl, Bool.not_false, if_true]
theorem rspare_l0 {us : List PoolUse} {c : Int} (hc : c ≤ 1099511627776) (hm : us.length ≤ 64) : ∀ (m : Nat) (i : Int) (k : Nat) (x : Int), i = us.length - m → 0 ≤ i → m < k → 0 ≤ x → x ≤ i * 1099511627776 →
    ref17_Spare.l0 (us.map cv) c k x i = some (x + (if c > 0 then ((sel (pFree us) m i).length : Int) * c else 0)) := by
  intro m
  induction m with
  | zero =>
    intro i k x hi h0 hk _ _
    obtain ⟨k, rfl⟩ : ∃ m, k = m + 1 := ⟨k - 1, by omega⟩
    simp [ref17_Spare.l0, decide_eq_false (show ¬ i < (us.length : Int) by omega), sel]
  | succ m ih =>
    intro i k x hi h0 hk hx hx2
    obtain ⟨k, rfl⟩ : ∃ m, k = m + 1 := ⟨k - 1, by omega⟩
    have d1 : decide (i < ((us.map cv).length : Int)) = true := decide_eq_true (by simp; omega)
    have g : 0 ≤ i ∧ i < ((us.map cv).length : Int) := by simp; omega
    have e1 : wi64 (i + 1) = i + 1 := wi64_id (by omega)
    have gi := gt_cv us h0 (by omega : i < us.length)
    have hi64 : i * 1099511627776 ≤ 64 * 1099511627776 := Int.mul_le_mul_of_nonneg_right (by omega) (by decide)
    simp only [ref17_Spare.l0, d1, if_true, g, and_self, gi, e1, rfree, Option.bind_some]
    cases hp : pFree us i with
    | false =>
      simp only [Bool.false_eq_true, if_false, Option.bind_some]
      rw [ih (i + 1) k x (by omega) (by omega) (by omega) hx (by omega)]
      simp [sel, hp]
    | true =>
      by_cases c0 : c > 0
      · simp only [if_true, decide_eq_true c0, Option.bind_some]
        rw [wi64_id (x := x + c) (by omega), ih (i + 1) k (x + c) (by omega) (by omega) (by omega) (by omega) (by omega)]
        simp only [sel, hp, if_true, c0, List.length_append, List.length_cons, List.length_nil, Nat.zero_add]
        rw [show (((1 + (sel (pFree us) m (i + 1)).length : Nat)) : Int) = 1 + ((sel (pFree us) m (i + 1)).length : Int) by omega, Int.add_mul, Int.one_mul, Int.add_assoc]
        simp
      · simp only [if_true, decide_eq_false c0, Option.bind_some, Bool.false_eq_true, if_false]
        rw [ih (i + 1) k x (by omega) (by omega) (by omega) hx (by omega)]
        simp [c0]
theorem mul_le64 {n : Nat} {c : Int} (hn : n ≤ 64) (h0 : 0 ≤ c) (hc : c ≤ 1099511627776) : 0 ≤ (n : Int) * c ∧ (n : Int) * c ≤ 70368744177664 := by
  constructor
  · exact Int.mul_nonneg (by omega) h0
  · calc (n : Int) * c ≤ 64 * 1099511627776 := Int.mul_le_mul (by omega) hc h0 (by decide)
      _ = 70368744177664 := by decide
theorem spare_both {us : List PoolUse} (hn : us.length ≤ 64) {c : Int} (hc : c ≤ 1099511627776) {r : List Int} (hr : pool_Free us = some r) (hT : Told (ltW us) (pFree us) us.length r) :
    pool_Spare us c = some ((r.length : Int) * (if 0 > c then 0 else c)) ∧ ref17_Spare (us.map cv) c = some ((r.length : Int) * (if 0 > c then 0 else c)) := by
  have hl := hT.len
  have hb := mul_le64 (n := r.length) (c := if 0 > c then 0 else c) (by omega) (by split <;> omega) (by split <;> omega)
  constructor
  · unfold pool_Spare
    rw [hr]; simp only [Option.bind_some]
    rw [wi64_id (by omega)]
  · unfold ref17_Spare
    rw [rspare_l0 hc hn us.length 0 FU 0 (by omega) (by omega) (by simp [FU]; omega) (Int.le_refl _) (by omega)]
    simp only [Option.bind_some, Int.zero_add, hT.cnt]
    congr 1
    by_cases c0 : c > 0
    · rw [if_pos c0, if_neg (by omega)]
    · rw [if_neg c0]
      by_cases c1 : 0 > c
      · rw [if_pos c1, Int.mul_zero]
      · rw [if_neg c1, show c = 0 by omega, Int.mul_zero]
theorem pworks : law17_works = some true := by decide +kernel
theorem law_PoolTells (us : List PoolUse) (c : Int) : law17_PoolTells us c = some true := by
  obtain ⟨b, t1, t2⟩ := tame_of us
  unfold law17_PoolTells
  rw [pworks]
  simp only [Option.bind_some, Bool.not_true, Bool.false_eq_true, if_false, if_true, t1]
  cases b with
  | false => simp
  | true =>
    have hn := t2 rfl
    simp only [Bool.not_true, Bool.false_eq_true, if_false, Option.bind_some]
    by_cases hc : c > 1099511627776
    · simp only [decide_eq_true hc, if_true]
    · simp only [decide_eq_false hc, Bool.false_eq_true, if_false]
      obtain ⟨r, r1, r2⟩ := free_told hn
      obtain ⟨P, p1, p2⟩ := pick_min hn
      obtain ⟨V, v1, v2⟩ := victim_min hn c
      obtain ⟨V', w1, w2⟩ := rvictim (us := us) (by omega) c
      obtain rfl := IsMin.uniq (wkLW us) v2 w2
      obtain ⟨s1, s2⟩ := spare_both hn (by omega : c ≤ 1099511627776) r1 r2
      obtain ⟨G, g1, g2, _⟩ := even_both hn
      have hrp : ref17_Pick (us.map cv) = some P := by
        obtain ⟨F, f1, f2⟩ := r2.first
        obtain rfl := IsMin.uniq (wkW us) f2 p2
        unfold ref17_Pick
        rw [rFree_eq hn r2]
        exact f1
      simp only [of_eq (show us.length ≤ 1000 by omega), Option.bind_some, r1, rFree_eq hn r2, row_refl (show r.length ≤ 1000 by have := r2.len; omega), if_true, p1, hrp, beq_self_eq_true, v1, w1, s1, s2, g1, g2]
end Go.Cen
