/- POOL: the reference's side. -/
import Derived.Test.YthdoklobbcedcaaPoolA
set_option linter.unusedVariables false
set_option linter.unusedSimpArgs false
namespace Go.Cen
def cv (u : PoolUse) : Ref17Use := ⟨u.Next, u.Live, u.Worn, u.Bad, u.Keep⟩
theorem gt_cv (us : List PoolUse) {i : Int} (h0 : 0 ≤ i) (h : i < us.length) : gt (us.map cv) i = cv (gt us i) := by
  simp only [gt, List.getD_eq_getElem?_getD, List.getElem?_map]
  rw [List.getElem?_eq_getElem (by omega)]; rfl
theorem of_l0 {us : List PoolUse} (hm : us.length ≤ 1000) : ∀ (m : Nat) (i : Int) (k : Nat) (acc : List Ref17Use), i = us.length - m → 0 ≤ i → m < k → acc = (us.take i.toNat).map cv → law17_of.l0 us k acc i = some (us.map cv) := by
  intro m
  induction m with
  | zero =>
    intro i k acc hi h0 hk ha
    obtain ⟨k, rfl⟩ : ∃ m, k = m + 1 := ⟨k - 1, by omega⟩
    rw [List.take_of_length_le (by omega)] at ha
    simp [law17_of.l0, decide_eq_false (show ¬ i < (us.length : Int) by omega), ha]
  | succ m ih =>
    intro i k acc hi h0 hk ha
    obtain ⟨k, rfl⟩ : ∃ m, k = m + 1 := ⟨k - 1, by omega⟩
    have hd : decide (i < (us.length : Int)) = true := decide_eq_true (by omega)
    have g : 0 ≤ i ∧ i < (us.length : Int) := by omega
    have e1 : wi64 (i + 1) = i + 1 := wi64_id (by omega)
    have hl : acc.length ≤ 1000 := by rw [ha]; simp; omega
    have gl : ∀ v : Ref17Use, acc.length + ([v] : List Ref17Use).length ≤ LIM := fun v => by simp [LIM]; omega
    simp only [law17_of.l0, hd, if_true, g, and_self, gl, e1]
    refine ih (i + 1) k _ (by omega) (by omega) (by omega) ?_
    obtain ⟨hlt, e⟩ := gt_lt us g.1 g.2
    rw [ha, show (i + 1).toNat = i.toNat + 1 by omega, List.take_add_one, List.getElem?_eq_getElem hlt, List.map_append, e]
    rfl
theorem of_eq {us : List PoolUse} (hm : us.length ≤ 1000) : law17_of us = some (us.map cv) := by
  unfold law17_of
  rw [of_l0 hm us.length 0 FU [] (by omega) (by omega) (by simp [FU]; omega) (by simp)]; rfl
theorem tame_l0 {us : List PoolUse} : ∀ (m : Nat) (i : Int) (k : Nat), i = 65 - m → 0 ≤ i → m < k → ∃ o, law17_tame.l0 us k i = some o ∧ (o = .inl false ∨ o = .inr ()) := by
  intro m
  induction m with
  | zero =>
    intro i k hi h0 hk
    obtain ⟨k, rfl⟩ : ∃ m, k = m + 1 := ⟨k - 1, by omega⟩
    refine ⟨.inr (), ?_, .inr rfl⟩
    by_cases c : i < (us.length : Int)
    · simp [law17_tame.l0, c, decide_eq_false (show ¬ i ≤ 64 by omega)]
    · simp [law17_tame.l0, c]
  | succ m ih =>
    intro i k hi h0 hk
    obtain ⟨k, rfl⟩ : ∃ m, k = m + 1 := ⟨k - 1, by omega⟩
    have e1 : wi64 (i + 1) = i + 1 := wi64_id (by omega)
    by_cases c : i < (us.length : Int)
    · have g : 0 ≤ i ∧ i < (us.length : Int) := by omega
      have d1 : decide (i < (us.length : Int)) = true := decide_eq_true c
      have d2 : decide (i ≤ 64) = true := decide_eq_true (by omega)
      simp only [law17_tame.l0, d1, d2, if_true, Option.bind_some, g, and_self, e1]
      obtain ⟨o, h1, h2⟩ := ih (i + 1) k (by omega) (by omega) (by omega)
      cases c1 : decide ((gt us i).Worn > 1099511627776) with
      | true => exact ⟨.inl false, by simp, .inl rfl⟩
      | false =>
        cases c2 : decide ((gt us i).Worn < -1099511627776) with
        | true => exact ⟨.inl false, by simp, .inl rfl⟩
        | false => exact ⟨o, by simpa using h1, h2⟩
    · exact ⟨.inr (), by simp [law17_tame.l0, c], .inr rfl⟩
theorem tame_of (us : List PoolUse) : ∃ b, law17_tame us = some b ∧ (b = true → us.length ≤ 64) := by
  obtain ⟨o, h1, h2⟩ := tame_l0 (us := us) 65 0 FU (by omega) (by omega) (by simp [FU])
  unfold law17_tame
  rw [h1]
  rcases h2 with rfl | rfl
  · exact ⟨false, rfl, by simp⟩
  · refine ⟨decide ((us.length : Int) ≤ 64), rfl, fun h => ?_⟩
    have := of_decide_eq_true h; omega
theorem row_refl_l0 {xs : List Int} (hm : xs.length ≤ 1000) : ∀ (m : Nat) (i : Int) (k : Nat), i = xs.length - m → 0 ≤ i → m < k → ref05_Row.l0 xs xs k i = some (.inr ()) := by
  intro m
  induction m with
  | zero =>
    intro i k hi h0 hk
    obtain ⟨k, rfl⟩ : ∃ m, k = m + 1 := ⟨k - 1, by omega⟩
    simp [ref05_Row.l0, decide_eq_false (show ¬ i < (xs.length : Int) by omega)]
  | succ m ih =>
    intro i k hi h0 hk
    obtain ⟨k, rfl⟩ : ∃ m, k = m + 1 := ⟨k - 1, by omega⟩
    have d1 : decide (i < (xs.length : Int)) = true := decide_eq_true (by omega)
    have g : 0 ≤ i ∧ i < (xs.length : Int) := by omega
    have e1 : wi64 (i + 1) = i + 1 := wi64_id (by omega)
    simp only [ref05_Row.l0, d1, if_true, g, and_self, bne_self_eq_false, Bool.false_eq_true, if_false, e1]
    exact ih (i + 1) k (by omega) (by omega) (by omega)
theorem row_refl {xs : List Int} (hm : xs.length ≤ 1000) : ref05_Row xs xs = some true := by
  unfold ref05_Row
  rw [if_neg (by simp), row_refl_l0 hm xs.length 0 FU (by omega) (by omega) (by simp [FU]; omega)]; rfl
theorem rfree (us : List PoolUse) (i : Int) : ref17_free (cv (gt us i)) = some (pFree us i) := by
  unfold ref17_free pFree cv
  cases (gt us i).Bad <;> cases (gt us i).Keep <;> rfl
/-- the first unused, by wear -/
theorem rfree_l1 {us : List PoolUse} {fl : List Bool} (hm : us.length ≤ 1000) (hf : fl.length = us.length) : ∀ (m : Nat) (i : Int) (k : Nat) (x : Int), i = us.length - m → 0 ≤ i → m < k → IsMin (ltW us) (fun j => !(gt fl j) && pFree us j) i x →
    ∃ F, ref17_Free.l1 (us.map cv) fl k x i = some F ∧ IsMin (ltW us) (fun j => !(gt fl j) && pFree us j) us.length F := by
  intro m
  induction m with
  | zero =>
    intro i k x hi h0 hk hx
    obtain ⟨k, rfl⟩ : ∃ m, k = m + 1 := ⟨k - 1, by omega⟩
    have : i = us.length := by omega
    refine ⟨x, ?_, by rw [← this]; exact hx⟩
    simp [ref17_Free.l1, decide_eq_false (show ¬ i < (us.length : Int) by omega)]
  | succ m ih =>
    intro i k x hi h0 hk hx
    obtain ⟨k, rfl⟩ : ∃ m, k = m + 1 := ⟨k - 1, by omega⟩
    have d1 : decide (i < ((us.map cv).length : Int)) = true := decide_eq_true (by simp; omega)
    have g : 0 ≤ i ∧ i < ((us.map cv).length : Int) := by simp; omega
    have gf : 0 ≤ i ∧ i < (fl.length : Int) := by omega
    have e1 : wi64 (i + 1) = i + 1 := wi64_id (by omega)
    have gi := gt_cv us h0 (by omega : i < us.length)
    have hx' := hx
    simp only [ref17_Free.l1, d1, if_true, gf, g, and_self, gi, rfree, e1, Option.bind_some]
    have go : ∀ G, ((fun j => !(gt fl j) && pFree us j) i = false ∧ G = x) ∨ ((fun j => !(gt fl j) && pFree us j) i = true ∧ ((x < 0 ∧ G = i) ∨ (0 ≤ x ∧ ((ltW us i x ∧ G = i) ∨ (¬ ltW us i x ∧ G = x))))) → ∃ F, ref17_Free.l1 (us.map cv) fl k G (i + 1) = some F ∧ IsMin (ltW us) (fun j => !(gt fl j) && pFree us j) us.length F :=
      fun G hG => ih (i + 1) k G (by omega) (by omega) (by omega) (hx.step (wkW us) h0 hG)
    cases hfl : gt fl i with
    | true => simp only [Bool.not_true, Bool.false_eq_true, if_false, Option.bind_some]; exact go x (.inl ⟨by simp [hfl], rfl⟩)
    | false =>
      cases hp : pFree us i with
      | false => simp only [Bool.not_false, if_true, Bool.false_eq_true, if_false, Option.bind_some]; exact go x (.inl ⟨by simp [hp], rfl⟩)
      | true =>
        have hpp : (fun j => !(gt fl j) && pFree us j) i = true := by simp [hfl, hp]
        by_cases c : x < 0
        · simp only [Bool.not_false, if_true, decide_eq_true c, Option.bind_some]; exact go i (.inr ⟨hpp, .inl ⟨c, rfl⟩⟩)
        · have hxr : 0 ≤ x ∧ x < ((us.map cv).length : Int) := by
            rcases hx with ⟨e, _⟩ | ⟨a, b, _⟩
            · omega
            · simp; omega
          have gx := gt_cv us hxr.1 (by have := hxr.2; simp at this; omega : x < us.length)
          simp only [Bool.not_false, if_true, decide_eq_false c, Bool.false_eq_true, if_false, hxr, and_self, gx, Option.bind_some]
          by_cases cl : (gt us i).Worn < (gt us x).Worn
          · rw [show decide ((cv (gt us i)).Worn < (cv (gt us x)).Worn) = true from decide_eq_true cl]
            simp only [if_true, Option.bind_some]; exact go i (.inr ⟨hpp, .inr ⟨hxr.1, .inl ⟨cl, rfl⟩⟩⟩)
          · rw [show decide ((cv (gt us i)).Worn < (cv (gt us x)).Worn) = false from decide_eq_false cl]
            simp only [Bool.false_eq_true, if_false, Option.bind_some]; exact go x (.inr ⟨hpp, .inr ⟨hxr.1, .inr ⟨cl, rfl⟩⟩⟩)
theorem mem_take {r : List Int} {t : Nat} (ht : t ≤ r.length) (j : Int) : j ∈ r.take t ↔ ∃ s : Int, 0 ≤ s ∧ s < t ∧ gt r s = j := by
  constructor
  · intro h
    obtain ⟨s, s0, s1, rfl⟩ := mem_gt h
    simp only [List.length_take] at s1
    refine ⟨s, s0, by omega, ?_⟩
    simp only [gt, List.getD_eq_getElem?_getD, List.getElem?_take]
    rw [if_pos (by omega)]
  · rintro ⟨s, s0, s1, rfl⟩
    have : gt r s = gt (r.take t) s := by
      simp only [gt, List.getD_eq_getElem?_getD, List.getElem?_take]
      rw [if_pos (by omega)]
    rw [this]
    exact gt_mem s0 (by simp; omega)
theorem told_next {us : List PoolUse} {r : List Int} {fl : List Bool} {t : Nat} (h : Told (ltW us) (pFree us) us.length r) (ht : t ≤ r.length) (hfl : ∀ j : Int, 0 ≤ j → j < us.length → (gt fl j = true ↔ j ∈ r.take t)) :
    IsMin (ltW us) (fun j => !(gt fl j) && pFree us j) us.length (if t < r.length then gt r t else -1) := by
  by_cases c : t < r.length
  · rw [if_pos c]
    have hm := (h.mem _).1 (gt_mem (xs := r) (j := (t : Int)) (by omega) (by omega))
    have hnot : gt r t ∉ r.take t := fun hin => by
      obtain ⟨s, s0, s1, e⟩ := (mem_take ht _).1 hin
      have := h.srt s t s0 (by omega) (by omega)
      rw [e] at this
      exact TT.irr (wkW us) _ this
    refine .inr ⟨hm.1, hm.2.1, ?_, fun j j0 j1 j2 j3 => ?_⟩
    · have : gt fl (gt r t) = false := by
        cases e : gt fl (gt r t) with
        | false => rfl
        | true => exact absurd ((hfl _ hm.1 hm.2.1).1 e) hnot
      simp [this, hm.2.2]
    · simp only [Bool.and_eq_true, Bool.not_eq_true'] at j2
      obtain ⟨s, s0, s1, rfl⟩ := mem_gt ((h.mem j).2 ⟨j0, j1, j2.2⟩)
      have hns : ¬ s < t := fun hs => by
        have := (hfl _ j0 j1).2 ((mem_take ht _).2 ⟨s, s0, by omega, rfl⟩)
        rw [j2.1] at this; cases this
      by_cases cs : s = t
      · subst cs; exact absurd rfl j3
      · exact h.srt t s (by omega) (by omega) s1
  · rw [if_neg c]
    refine .inl ⟨rfl, fun i i0 i1 => ?_⟩
    cases hp : pFree us i with
    | false => simp [hp]
    | true =>
      have := (hfl i i0 i1).2 (by rw [List.take_of_length_le (by omega)]; exact (h.mem i).2 ⟨i0, i1, hp⟩)
      simp [this]
theorem rfree_l0 {us : List PoolUse} {r : List Int} (hm : us.length ≤ 64) (h : Told (ltW us) (pFree us) us.length r) : ∀ (m : Nat) (i : Int) (k : Nat) (t : Nat) (fl : List Bool), i = us.length - m → 0 ≤ i → m < k → (t : Int) = min i r.length → fl.length = us.length → (∀ j : Int, 0 ≤ j → j < us.length → (gt fl j = true ↔ j ∈ r.take t)) →
    ref17_Free.l0 (us.map cv) k (r.take t) fl i = some r := by
  have hrl := h.len
  intro m
  induction m with
  | zero =>
    intro i k t fl hi h0 hk ht hf hfl
    obtain ⟨k, rfl⟩ : ∃ m, k = m + 1 := ⟨k - 1, by omega⟩
    have : r.take t = r := List.take_of_length_le (by omega)
    simp [ref17_Free.l0, decide_eq_false (show ¬ i < (us.length : Int) by omega), this]
  | succ m ih =>
    intro i k t fl hi h0 hk ht hf hfl
    obtain ⟨k, rfl⟩ : ∃ m, k = m + 1 := ⟨k - 1, by omega⟩
    have d1 : decide (i < ((us.map cv).length : Int)) = true := decide_eq_true (by simp; omega)
    have e1 : wi64 (i + 1) = i + 1 := wi64_id (by omega)
    obtain ⟨F, f1, f2⟩ := rfree_l1 (us := us) (fl := fl) (by omega) hf us.length 0 FU (-1) (by omega) (by omega) (by simp [FU]; omega) (IsMin.zero _ _)
    have hF := IsMin.uniq (wkW us) f2 (told_next h (by omega) hfl)
    simp only [ref17_Free.l0, d1, if_true, f1, Option.bind_some, e1]
    by_cases c : t < r.length
    · rw [if_pos c] at hF
      have hmF := (h.mem _).1 (gt_mem (xs := r) (j := (t : Int)) (by omega) (by omega))
      rw [← hF] at hmF
      have gF : 0 ≤ F ∧ F < (fl.length : Int) := by omega
      have gl : (r.take t).length + ([F] : List Int).length ≤ LIM := by simp [LIM]; omega
      rw [if_pos (decide_eq_true hmF.1), if_pos gF, if_pos gl]
      simp only [Option.bind_some]
      have ht1 : r.take t ++ [F] = r.take (t + 1) := by
        obtain ⟨hlt, e⟩ := gt_lt r (j := (t : Int)) (by omega) (by omega)
        rw [List.take_add_one, hF, e, List.getElem?_eq_getElem (by simpa using c)]
        rfl
      rw [ht1]
      refine ih (i + 1) k (t + 1) (st fl F true) (by omega) (by omega) (by omega) (by omega) (by rw [st_length, hf]) (fun j j0 j1 => ?_)
      rw [gt_st _ _ _ _ gF.1 j0 gF.2, ← ht1, List.mem_append]
      by_cases cj : j = F
      · simp [cj]
      · rw [if_neg cj, hfl j j0 j1]; simp [cj]
    · rw [if_neg c] at hF
      rw [if_neg (by rw [hF]; simp)]
      simp only [Option.bind_some]
      exact ih (i + 1) k t fl (by omega) (by omega) (by omega) (by omega) hf hfl
theorem rFree_eq {us : List PoolUse} {r : List Int} (hm : us.length ≤ 64) (h : Told (ltW us) (pFree us) us.length r) : ref17_Free (us.map cv) = some r := by
  unfold ref17_Free
  rw [if_pos ⟨by omega, by omega, by simp; omega⟩]
  have h0 : (List.replicate ((us.map cv).length : Int).toNat false).length = us.length := by simp
  have := rfree_l0 hm h us.length 0 FU 0 (List.replicate ((us.map cv).length : Int).toNat false) (by omega) (by omega) (by simp [FU]; omega) (by omega) h0 (fun j j0 j1 => by
    have : gt (List.replicate ((us.map cv).length : Int).toNat false) j = false := by
      obtain ⟨hl, e⟩ := gt_eq (ys := List.replicate ((us.map cv).length : Int).toNat false) j0 (by rw [h0]; exact j1)
      rw [e]; simp
    rw [this]; simp)
  simp only [List.take_zero] at this
  rw [this]; rfl
end Go.Cen
