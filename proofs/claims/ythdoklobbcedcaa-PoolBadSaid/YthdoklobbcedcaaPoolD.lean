/- POOL: the other laws. -/
import Derived.Test.YthdoklobbcedcaaPoolC
set_option linter.unusedVariables false
set_option linter.unusedSimpArgs false
set_option maxRecDepth 100000
namespace Go.Cen
theorem nfree (us : List PoolUse) (i : Int) : (if (gt us i).Bad = true then some true else (if (gt us i).Keep = true then some true else some (decide ((gt us i).Live > 0)))) = some (!(pFree us i)) := by
  unfold pFree
  cases (gt us i).Bad <;> cases (gt us i).Keep <;> simp
  by_cases h : (gt us i).Live ≤ 0
  · simp [h]
  · simp [h]; omega
theorem picks_l0 {us : List PoolUse} {F : Int} (hm : us.length ≤ 64) (hF : IsMin (ltW us) (pFree us) us.length F) : ∀ (m : Nat) (i : Int) (k : Nat) (x : Int), i = us.length - m → 0 ≤ i → m < k → 0 ≤ x → x ≤ i →
    law17_PoolPicks.l0 us F k x i = some (.inr (x + (sel (pFree us) m i).length)) := by
  intro m
  induction m with
  | zero =>
    intro i k x hi h0 hk _ _
    obtain ⟨k, rfl⟩ : ∃ m, k = m + 1 := ⟨k - 1, by omega⟩
    simp [law17_PoolPicks.l0, decide_eq_false (show ¬ i < (us.length : Int) by omega), sel]
  | succ m ih =>
    intro i k x hi h0 hk hx hx2
    obtain ⟨k, rfl⟩ : ∃ m, k = m + 1 := ⟨k - 1, by omega⟩
    have d1 : decide (i < (us.length : Int)) = true := decide_eq_true (by omega)
    have g : 0 ≤ i ∧ i < (us.length : Int) := by omega
    have e1 : wi64 (i + 1) = i + 1 := wi64_id (by omega)
    have e2 : wi64 (x + 1) = x + 1 := wi64_id (by omega)
    simp only [law17_PoolPicks.l0, d1, if_true, g, and_self, nfree, Option.bind_some, e1, e2]
    cases hp : pFree us i with
    | false =>
      have hne : (i == F) = false := by
        simp only [beq_eq_false_iff_ne, ne_eq]
        rintro rfl
        rcases hF with ⟨e, _⟩ | ⟨_, _, c, _⟩
        · omega
        · rw [hp] at c; cases c
      simp only [Bool.not_false, if_true, hne, Bool.false_eq_true, if_false, Option.bind_some]
      rw [ih (i + 1) k x (by omega) (by omega) (by omega) hx (by omega)]
      simp [sel, hp]
    | true =>
      rcases hF with ⟨_, h⟩ | ⟨a, b, c, d⟩
      · rw [h i g.1 g.2] at hp; cases hp
      · have hl : ¬ (gt us i).Worn < (gt us F).Worn := by
          by_cases ci : i = F
          · subst ci; omega
          · rcases d i g.1 g.2 hp ci with h | ⟨h, _⟩
            · unfold ltW at h; omega
            · exact h
        have hFr : 0 ≤ F ∧ F < (us.length : Int) := ⟨a, b⟩
        simp only [Bool.not_true, Bool.false_eq_true, if_false, decide_eq_false (show ¬ F < 0 by omega), hFr, and_self, if_true, decide_eq_false hl, Option.bind_some]
        rw [ih (i + 1) k (x + 1) (by omega) (by omega) (by omega) (by omega) (by omega)]
        simp [sel, hp]; omega
theorem law_PoolPicks (us : List PoolUse) : law17_PoolPicks us = some true := by
  obtain ⟨b, t1, t2⟩ := tame_of us
  unfold law17_PoolPicks
  rw [pworks]
  simp only [Option.bind_some, Bool.not_true, Bool.false_eq_true, if_false, if_true, t1]
  cases b with
  | false => simp
  | true =>
    have hn := t2 rfl
    obtain ⟨r, r1, r2⟩ := free_told hn
    obtain ⟨P, p1, p2⟩ := pick_min hn
    obtain ⟨s1, _⟩ := spare_both hn (c := 3) (by omega) r1 r2
    have hl := picks_l0 hn p2 us.length 0 FU 0 (by omega) (by omega) (by simp [FU]; omega) (Int.le_refl _) (Int.le_refl _)
    have hcnt := r2.cnt
    have hlen := r2.len
    rw [← hcnt, Int.zero_add] at hl
    have w : wi64 (3 * (r.length : Int)) = 3 * r.length := wi64_id (by omega)
    have hiff : (decide (P ≥ 0) == decide ((r.length : Int) > 0)) = true := by
      rcases p2 with ⟨e, h⟩ | ⟨a, b, c, _⟩
      · have : r.length = 0 := by
          rw [List.length_eq_zero_iff]
          cases hr : r with
          | nil => rfl
          | cons v l =>
            have := (r2.mem v).1 (by rw [hr]; simp)
            rw [h v this.1 this.2.1] at this
            cases this.2.2
        rw [decide_eq_false (by omega), decide_eq_false (by omega)]; rfl
      · have := List.length_pos_of_mem ((r2.mem P).2 ⟨a, b, c⟩)
        rw [decide_eq_true (by omega), decide_eq_true (by omega)]; rfl
    simp only [Bool.not_true, Bool.false_eq_true, if_false, p1, Option.bind_some, hl, r1, s1, hiff, if_true, beq_self_eq_true, w]
    simp; omega
theorem vic_cond (us : List PoolUse) (c i : Int) (o : Option Bool) : (if (!((gt us i).Bad)) = true then (if (!((gt us i).Keep)) = true then (if (decide (((gt us i).Live) > 0)) = true then (if (decide (((gt us i).Live) < c)) = true then o else some false) else some false) else some false) else some false) = if pVic us c i = true then o else some false := by
  unfold pVic pLives
  cases (gt us i).Bad <;> cases (gt us i).Keep <;> simp
  by_cases h : 0 < (gt us i).Live <;> by_cases k : (gt us i).Live < c <;> simp [h, k]
theorem victims_l0 {us : List PoolUse} {c F : Int} (hm : us.length ≤ 64) (hF : IsMin (ltLW us) (pVic us c) us.length F) : ∀ (m : Nat) (i : Int) (k : Nat), i = us.length - m → 0 ≤ i → m < k →
    law17_PoolVictims.l0 us c F k i = some (.inr ()) := by
  intro m
  induction m with
  | zero =>
    intro i k hi h0 hk
    obtain ⟨k, rfl⟩ : ∃ m, k = m + 1 := ⟨k - 1, by omega⟩
    simp [law17_PoolVictims.l0, decide_eq_false (show ¬ i < (us.length : Int) by omega)]
  | succ m ih =>
    intro i k hi h0 hk
    obtain ⟨k, rfl⟩ : ∃ m, k = m + 1 := ⟨k - 1, by omega⟩
    have d1 : decide (i < (us.length : Int)) = true := decide_eq_true (by omega)
    have g : 0 ≤ i ∧ i < (us.length : Int) := by omega
    have e1 : wi64 (i + 1) = i + 1 := wi64_id (by omega)
    simp only [law17_PoolVictims.l0, d1, if_true, g, and_self, vic_cond, e1]
    cases hp : pVic us c i with
    | false =>
      simp only [Bool.false_eq_true, if_false, Option.bind_some]
      exact ih (i + 1) k (by omega) (by omega) (by omega)
    | true =>
      rcases hF with ⟨_, h⟩ | ⟨a, b, cc, d⟩
      · rw [h i g.1 g.2] at hp; cases hp
      · have hl : ¬ (gt us i).Live < (gt us F).Live := by
          by_cases ci : i = F
          · subst ci; omega
          · rcases d i g.1 g.2 hp ci with h | ⟨h, _⟩ <;> unfold ltLW at h <;> omega
        have hFr : 0 ≤ F ∧ F < (us.length : Int) := ⟨a, b⟩
        simp only [if_true, decide_eq_false (show ¬ F < 0 by omega), Bool.false_eq_true, if_false, hFr, and_self, decide_eq_false hl, Option.bind_some]
        exact ih (i + 1) k (by omega) (by omega) (by omega)
theorem law_PoolVictims (us : List PoolUse) (c : Int) : law17_PoolVictims us c = some true := by
  obtain ⟨b, t1, t2⟩ := tame_of us
  unfold law17_PoolVictims
  rw [pworks]
  simp only [Option.bind_some, Bool.not_true, Bool.false_eq_true, if_false, if_true, t1]
  cases b with
  | false => simp
  | true =>
    have hn := t2 rfl
    obtain ⟨V, v1, v2⟩ := victim_min hn c
    obtain ⟨G, g1, _, g3⟩ := even_both hn
    have hl := victims_l0 hn v2 us.length 0 FU (by omega) (by omega) (by simp [FU]; omega)
    have hG : ((if (decide (G < 0)) = true then some true else (if (decide (G < (us.length : Int))) = true then (if 0 ≤ G ∧ G < (us.length : Int) then (if (decide (((gt us G).Live) > 0)) = true then (if 0 ≤ G ∧ G < (us.length : Int) then (if (!((gt us G).Bad)) = true then (if 0 ≤ G ∧ G < (us.length : Int) then some (!((gt us G).Keep)) else none) else some false) else none) else some false) else none) else some false)) : Option Bool) = some true := by
      rcases g3 with rfl | ⟨a, b, h⟩
      · rfl
      · have hGr : 0 ≤ G ∧ G < (us.length : Int) := ⟨a, b⟩
        unfold pLives at h
        simp only [Bool.and_eq_true] at h
        rw [if_neg (by simp; omega), if_pos (decide_eq_true b), if_pos hGr, if_pos h.2.2, if_pos hGr, if_pos h.1, if_pos hGr, h.2.1]
    rcases v2 with ⟨rfl, _⟩ | ⟨a, b, h, _⟩
    · simp only [Bool.not_true, Bool.false_eq_true, if_false, v1, Option.bind_some, show decide ((-1 : Int) ≥ 0) = false from rfl, hl, g1, hG, if_true]
    · have hVr : 0 ≤ V ∧ V < (us.length : Int) := ⟨a, b⟩
      unfold pVic pLives at h
      simp only [Bool.and_eq_true, Bool.not_eq_true', decide_eq_true_eq] at h
      simp only [Bool.not_true, Bool.false_eq_true, if_false, v1, Option.bind_some, decide_eq_true (show V ≥ 0 from a), if_true, decide_eq_false (show ¬ V ≥ (us.length : Int) by omega), hVr, and_self, h.1.1, h.1.2.1, decide_eq_false (show ¬ (gt us V).Live ≤ 0 by omega), decide_eq_false (show ¬ (gt us V).Live ≥ c by omega), hl, g1, hG, decide_true]
theorem order_l0 {us : List PoolUse} {r : List Int} (hT : Told (ltW us) (pFree us) us.length r) (hm : us.length ≤ 64) : ∀ (m : Nat) (i : Int) (k : Nat), (i = r.length - m ∨ (m = 0 ∧ r.length ≤ i ∧ i ≤ 100)) → 1 ≤ i → m < k → law17_PoolOrder.l0 r us k i = some (.inr ()) := by
  have hlen := hT.len
  intro m
  induction m with
  | zero =>
    intro i k hi h0 hk
    obtain ⟨k, rfl⟩ : ∃ m, k = m + 1 := ⟨k - 1, by omega⟩
    simp [law17_PoolOrder.l0, decide_eq_false (show ¬ i < (r.length : Int) by omega)]
  | succ m ih =>
    intro i k hi h0 hk
    obtain ⟨k, rfl⟩ : ∃ m, k = m + 1 := ⟨k - 1, by omega⟩
    have hi' : i = r.length - (m + 1 : Nat) := by omega
    have d1 : decide (i < (r.length : Int)) = true := decide_eq_true (by omega)
    have g : 0 ≤ i ∧ i < (r.length : Int) := by omega
    have e1 : wi64 (i + 1) = i + 1 := wi64_id (by omega)
    have e2 : wi64 (i - 1) = i - 1 := wi64_id (by omega)
    have g2 : 0 ≤ i - 1 ∧ i - 1 < (r.length : Int) := by omega
    have m1 := (hT.mem _).1 (gt_mem (xs := r) g.1 g.2)
    have m2 := (hT.mem _).1 (gt_mem (xs := r) g2.1 g2.2)
    have q1 : 0 ≤ gt r i ∧ gt r i < (us.length : Int) := ⟨m1.1, m1.2.1⟩
    have q2 : 0 ≤ gt r (i - 1) ∧ gt r (i - 1) < (us.length : Int) := ⟨m2.1, m2.2.1⟩
    have hs := hT.srt (i - 1) i g2.1 (by omega) g.2
    simp only [law17_PoolOrder.l0, d1, if_true, e1, e2, g, g2, q1, q2, and_self]
    have hle : ¬ (gt us (gt r (i - 1))).Worn > (gt us (gt r i)).Worn := by
      rcases hs with h | ⟨h, _⟩ <;> unfold ltW at h <;> omega
    simp only [decide_eq_false hle, Bool.false_eq_true, if_false]
    cases he : ((gt us (gt r (i - 1))).Worn == (gt us (gt r i)).Worn) with
    | false => simp only [Bool.false_eq_true, if_false, Option.bind_some]; exact ih (i + 1) k (by omega) (by omega) (by omega)
    | true =>
      have he' := eq_of_beq he
      have hpos : ¬ gt r (i - 1) ≥ gt r i := by
        rcases hs with h | ⟨_, h⟩
        · unfold ltW at h; omega
        · omega
      simp only [if_true, decide_eq_false hpos, Option.bind_some, Bool.false_eq_true, if_false]
      exact ih (i + 1) k (by omega) (by omega) (by omega)
theorem law_PoolOrder (us : List PoolUse) : law17_PoolOrder us = some true := by
  obtain ⟨b, t1, t2⟩ := tame_of us
  unfold law17_PoolOrder
  rw [pworks]
  simp only [Option.bind_some, Bool.not_true, Bool.false_eq_true, if_false, if_true, t1]
  cases b with
  | false => simp
  | true =>
    have hn := t2 rfl
    obtain ⟨r, r1, r2⟩ := free_told hn
    have hlen := r2.len
    have hl : law17_PoolOrder.l0 r us FU 1 = some (.inr ()) := by
      by_cases c : 1 ≤ r.length
      · exact order_l0 r2 hn (r.length - 1) 1 FU (by omega) (Int.le_refl _) (by simp [FU]; omega)
      · exact order_l0 r2 hn 0 1 FU (by omega) (Int.le_refl _) (by simp [FU])
    obtain ⟨F, f1, f2⟩ := r2.first
    have hp : pool_Pick us = some F := by unfold pool_Pick; rw [r1]; simp only [Option.bind_some, f1]
    have hiff : (((r.length : Int) == 0) == decide (F < 0)) = true := by
      rcases f2 with ⟨e, h⟩ | ⟨a, b, c, _⟩
      · have : r.length = 0 := by
          rw [List.length_eq_zero_iff]
          cases hr : r with
          | nil => rfl
          | cons v l =>
            have := (r2.mem v).1 (by rw [hr]; simp)
            rw [h v this.1 this.2.1] at this
            cases this.2.2
        rw [this, decide_eq_true (show F < 0 by omega)]; rfl
      · have := List.length_pos_of_mem ((r2.mem F).2 ⟨a, b, c⟩)
        have h0 : ((r.length : Int) == 0) = false := by simp only [beq_eq_false_iff_ne, ne_eq]; omega
        rw [decide_eq_false (show ¬ F < 0 by omega), h0]; rfl
    simp only [Bool.not_true, Bool.false_eq_true, if_false, r1, Option.bind_some, hl, if_true, decide_eq_true (show (r.length : Int) ≤ (us.length : Int) by omega), hp, hiff]
/-! ### a block that becomes bad -/
theorem pair_of_srt {lt : Int → Int → Prop} {r : List Int} (h : Srt lt r 0 r.length) : r.Pairwise (TT lt) := by
  rw [List.pairwise_iff_getElem]
  intro i j hi hj hij
  have := h i j (by omega) (by omega) (by omega)
  obtain ⟨l1, e1⟩ := gt_lt r (j := (i : Int)) (by omega) (by omega)
  obtain ⟨l2, e2⟩ := gt_lt r (j := (j : Int)) (by omega) (by omega)
  rw [e1, e2] at this
  simpa using this
theorem pair_uniq {lt : Int → Int → Prop} (hw : Wk lt) : ∀ {r s : List Int}, r.Pairwise (TT lt) → s.Pairwise (TT lt) → (∀ x, x ∈ r ↔ x ∈ s) → r = s
  | [], [], _, _, _ => rfl
  | [], b :: s, _, _, h => by have := (h b).2 (by simp); cases this
  | a :: r, [], _, _, h => by have := (h a).1 (by simp); cases this
  | a :: r, b :: s, hr, hs, h => by
    rw [List.pairwise_cons] at hr hs
    have e : a = b := by
      have ha := (h a).1 (by simp)
      have hb := (h b).2 (by simp)
      rcases List.mem_cons.1 ha with e | ha
      · exact e
      · rcases List.mem_cons.1 hb with e | hb
        · exact e.symm
        · exact absurd (TT.trans hw (hs.1 a ha) (hr.1 b hb)) (TT.irr hw b)
    subst e
    congr 1
    refine pair_uniq hw hr.2 hs.2 fun x => ?_
    constructor
    · intro hx
      rcases List.mem_cons.1 ((h x).1 (by simp [hx])) with e | h'
      · subst e; exact absurd (hr.1 x hx) (TT.irr hw x)
      · exact h'
    · intro hx
      rcases List.mem_cons.1 ((h x).2 (by simp [hx])) with e | h'
      · subst e; exact absurd (hs.1 x hx) (TT.irr hw x)
      · exact h'
def badAt (us : List PoolUse) (a : Int) : List PoolUse := st us a ⟨(gt us a).Next, (gt us a).Live, (gt us a).Worn, true, (gt us a).Keep⟩
theorem gt_bad (us : List PoolUse) {a j : Int} (ha : 0 ≤ a ∧ a < us.length) (hj : 0 ≤ j) : gt (badAt us a) j = if j = a then ⟨(gt us a).Next, (gt us a).Live, (gt us a).Worn, true, (gt us a).Keep⟩ else gt us j := gt_st us a j _ ha.1 hj ha.2
theorem bad_worn (us : List PoolUse) {a : Int} (ha : 0 ≤ a ∧ a < us.length) (j : Int) : (gt (badAt us a) j).Worn = (gt us j).Worn := by
  rcases Int.lt_or_le j 0 with h | h
  · have e : ∀ xs : List PoolUse, gt xs j = gt xs 0 := fun xs => by simp only [gt]; rw [show j.toNat = (0 : Int).toNat by omega]
    rw [e, e us, gt_bad us ha (Int.le_refl _)]
    split
    · rename_i h0; rw [h0]
    · rfl
  · rw [gt_bad us ha h]
    split
    · rename_i h0; rw [h0]
    · rfl
theorem bad_l0 {r s : List Int} {a : Int} (hm : r.length ≤ 1000) (hs : s = r.filter (fun x => x != a)) : ∀ (m : Nat) (i : Int) (k : Nat) (x : Int), i = r.length - m → 0 ≤ i → m < k → 0 ≤ x → s.drop x.toNat = (r.drop i.toNat).filter (fun x => x != a) → x ≤ s.length →
    law17_PoolBad.l0 r a s k x i = some (.inr (s.length : Int)) := by
  intro m
  induction m with
  | zero =>
    intro i k x hi h0 hk hx hd hxl
    obtain ⟨k, rfl⟩ : ∃ m, k = m + 1 := ⟨k - 1, by omega⟩
    rw [List.drop_of_length_le (l := r) (by omega)] at hd
    have hl := congrArg List.length hd
    simp at hl
    have : x = s.length := by omega
    simp [law17_PoolBad.l0, decide_eq_false (show ¬ i < (r.length : Int) by omega), this]
  | succ m ih =>
    intro i k x hi h0 hk hx hd hxl
    obtain ⟨k, rfl⟩ : ∃ m, k = m + 1 := ⟨k - 1, by omega⟩
    have d1 : decide (i < (r.length : Int)) = true := decide_eq_true (by omega)
    have g : 0 ≤ i ∧ i < (r.length : Int) := by omega
    have e1 : wi64 (i + 1) = i + 1 := wi64_id (by omega)
    obtain ⟨hl, e⟩ := gt_lt r g.1 g.2
    have hdr : r.drop i.toNat = gt r i :: r.drop (i + 1).toNat := by rw [e, List.drop_eq_getElem_cons hl, show (i + 1).toNat = i.toNat + 1 by omega]
    rw [hdr] at hd
    by_cases c : gt r i = a
    · have cb : (gt r i == a) = true := by simpa using c
      simp only [law17_PoolBad.l0, d1, if_true, g, and_self, cb, Option.bind_some, e1]
      refine ih (i + 1) k x (by omega) (by omega) (by omega) hx ?_ hxl
      rw [hd, List.filter_cons]; simp [c]
    · have cb : (gt r i == a) = false := by simpa using c
      have hd2 : s.drop x.toNat = gt r i :: (r.drop (i + 1).toNat).filter (fun x => x != a) := by rw [hd, List.filter_cons]; simp [c]
      have hxs : x < s.length := by
        rcases Int.lt_or_le x s.length with h | h
        · exact h
        · rw [List.drop_of_length_le (by omega)] at hd2; cases hd2
      obtain ⟨hl2, e2⟩ := gt_lt s hx hxs
      have hdr2 : s.drop x.toNat = gt s x :: s.drop (x + 1).toNat := by rw [e2, List.drop_eq_getElem_cons hl2, show (x + 1).toNat = x.toNat + 1 by omega]
      rw [hdr2] at hd2
      have hh := List.cons_eq_cons.1 hd2
      have hls : s.length ≤ r.length := by rw [hs]; exact List.length_filter_le _ _
      have e3 : wi64 (x + 1) = x + 1 := wi64_id (by omega)
      have g2 : 0 ≤ x ∧ x < (s.length : Int) := ⟨hx, hxs⟩
      have nb : (gt s x != gt r i) = false := by rw [hh.1]; simp
      simp only [law17_PoolBad.l0, d1, if_true, g, and_self, cb, Bool.false_eq_true, if_false, decide_eq_false (show ¬ x ≥ (s.length : Int) by omega), g2, nb, Option.bind_some, e1, e3]
      exact ih (i + 1) k (x + 1) (by omega) (by omega) (by omega) (by omega) hh.2 (by omega)
theorem law_PoolBad (us : List PoolUse) (a : Int) : law17_PoolBad us a = some true := by
  obtain ⟨b, t1, t2⟩ := tame_of us
  unfold law17_PoolBad
  rw [pworks]
  simp only [Option.bind_some, Bool.not_true, Bool.false_eq_true, if_false, if_true, t1]
  cases b with
  | false => simp
  | true =>
    have hn := t2 rfl
    simp only [Bool.not_true, Bool.false_eq_true, if_false]
    by_cases c0 : a < 0
    · simp only [decide_eq_true c0, if_true, Option.bind_some]
    · by_cases c1 : a ≥ (us.length : Int)
      · simp only [decide_eq_false c0, decide_eq_true c1, Bool.false_eq_true, if_false, if_true, Option.bind_some]
      · simp only [decide_eq_false c0, decide_eq_false c1, Bool.false_eq_true, if_false, Option.bind_some, List.nil_append]
        have ha : 0 ≤ a ∧ a < (us.length : Int) := by omega
        have hbl : (badAt us a).length = us.length := by unfold badAt; rw [st_length]
        obtain ⟨r, r1, r2⟩ := free_told hn
        obtain ⟨s, s1, s2⟩ := free_told (us := badAt us a) (by omega)
        obtain ⟨V, v1, v2⟩ := victim_min (us := badAt us a) (by omega) 8
        obtain ⟨G, g1, _, g3⟩ := even_both (us := badAt us a) (by omega)
        have hlt : ltW (badAt us a) = ltW us := by funext i j; unfold ltW; rw [bad_worn us ha, bad_worn us ha]
        have hpb : ∀ j, 0 ≤ j → pFree (badAt us a) j = (pFree us j && (j != a)) := fun j hj => by
          unfold pFree
          rw [gt_bad us ha hj]
          by_cases c : j = a
          · rw [if_pos c]; simp [c]
          · rw [if_neg c]; simp [c]
        have hs : s = r.filter (fun x => x != a) := by
          refine pair_uniq (wkW us) (by have := pair_of_srt s2.srt; rwa [hlt] at this) ((pair_of_srt r2.srt).filter _) fun x => ?_
          rw [s2.mem, List.mem_filter, r2.mem, hbl]
          constructor
          · rintro ⟨h0, h1, h2⟩
            rw [hpb x h0] at h2
            simp only [Bool.and_eq_true] at h2
            exact ⟨⟨h0, h1, h2.1⟩, h2.2⟩
          · rintro ⟨⟨h0, h1, h2⟩, h3⟩
            exact ⟨h0, h1, by rw [hpb x h0, h2, h3]; rfl⟩
        have hrl := r2.len
        have hl := bad_l0 (r := r) (s := s) (a := a) (by omega) hs r.length 0 FU 0 (by omega) (Int.le_refl _) (by simp [FU]; omega) (Int.le_refl _) (by simpa using hs) (by omega)
        have hVa : (V != a) = true := by
          simp only [bne_iff_ne, ne_eq]
          rcases v2 with ⟨e, _⟩ | ⟨h0, _, h, _⟩
          · omega
          · rintro rfl
            unfold pVic pLives at h
            rw [gt_bad us ha h0, if_pos rfl] at h
            simp at h
        have hGa : (G != a) = true := by
          simp only [bne_iff_ne, ne_eq]
          rcases g3 with e | ⟨h0, _, h⟩
          · omega
          · rintro rfl
            unfold pLives at h
            rw [gt_bad us ha h0, if_pos rfl] at h
            simp at h
        have gl : ([] : List PoolUse).length + us.length ≤ LIM := by simp [LIM]; omega
        rw [if_pos gl, if_pos ha]
        rw [show st us a (PoolUse.mk (gt us a).Next (gt us a).Live (gt us a).Worn true (gt us a).Keep) = badAt us a from rfl]
        simp only [r1, s1, hl, Option.bind_some, beq_self_eq_true, if_true, v1, hVa, g1, hGa]
end Go.Cen
