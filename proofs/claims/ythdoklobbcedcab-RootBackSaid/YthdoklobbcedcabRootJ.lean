/- ROOT: what parts are, and when they are read. -/
import Derived.Test.YthdoklobbcedcabRootI
set_option linter.unusedVariables false
set_option linter.unusedSimpArgs false
namespace Go.Cen
def PF (s N i : Nat) (w : List Int) (m : Nat) : List (List Int) := (List.range m).map fun j => nm ((i + j : Nat) : Int) ++ nm (N : Int) ++ (w.drop (j * s)).take s
theorem putL_PF (c : Nat) (l : List Int) (m : Nat) : putL c l m = (PF c (nparts c l.length) 0 l m).map strOfNums := by
  simp [putL, PF, partL]
theorem PF_len (s N i : Nat) (w : List Int) (m : Nat) : (PF s N i w m).length = m := by simp [PF]
theorem PF_succ (s N i : Nat) (w : List Int) (m : Nat) : PF s N i w (m + 1) = (nm (i : Int) ++ nm (N : Int) ++ w.take s) :: PF s N (i + 1) (w.drop s) m := by
  simp only [PF, List.range_succ_eq_map, List.map_cons, List.map_map, Nat.zero_mul, List.drop_zero, Nat.add_zero]
  congr 1
  apply List.map_congr_left
  intro j _
  simp only [Function.comp, List.drop_drop, Nat.succ_eq_add_one]
  have e1 : i + (j + 1) = i + 1 + j := by omega
  have e2 : (j + 1) * s = s + j * s := by rw [Nat.add_mul]; omega
  rw [e1, e2]
theorem PF_isB (s N i : Nat) (w : List Int) (m : Nat) (hw : isB w) : ∀ l ∈ PF s N i w m, isB l := by
  intro l hl
  simp only [PF, List.mem_map] at hl
  obtain ⟨j, _, rfl⟩ := hl
  exact isB_app (isB_app (nm_isB _) (nm_isB _)) (isB_take (isB_drop hw _) _)
theorem PF_part (s N i : Nat) (w : List Int) (m : Nat) : ∀ l ∈ PF s N i w m, l.length ≤ 16 + s := by
  intro l hl
  simp only [PF, List.mem_map] at hl
  obtain ⟨j, _, rfl⟩ := hl
  have := nm_len ((i + j : Nat) : Int); have := nm_len (N : Int)
  simp only [List.length_append, List.length_take]; omega
theorem nparts_zero {s : Nat} (hs : 0 < s) : nparts s 0 = 0 := by have := nparts_le hs 0; omega
theorem nparts_eq {s n m : Nat} (hs : 0 < s) (h1 : n ≤ m * s) (h2 : m = 0 ∨ (m - 1) * s < n) : nparts s n = m := by
  have a := nparts_lt hs n (m - 1)
  have b := nparts_lt hs n m
  rcases h2 with h2 | h2
  · subst h2
    have : ¬ 0 < nparts s n := fun h => by have := b.1 h; omega
    omega
  · have c := a.2 h2
    have : ¬ m < nparts s n := fun h => by have := b.1 h; omega
    omega
theorem nparts_step {s n : Nat} (hs : 0 < s) (h : 0 < n) : nparts s n = nparts s (n - s) + 1 := by
  have a := nparts_end hs (n - s)
  apply nparts_eq hs
  · rw [Nat.add_mul]; omega
  · right
    rw [Nat.add_sub_cancel]
    by_cases h0 : n ≤ s
    · have : n - s = 0 := by omega
      rw [this, nparts_zero hs]; omega
    · have b := (nparts_lt hs (n - s) (nparts s (n - s) - 1)).1 (by
        have : 0 < nparts s (n - s) := (nparts_lt hs (n - s) 0).2 (by omega)
        omega)
      have : 0 < nparts s (n - s) := (nparts_lt hs (n - s) 0).2 (by omega)
      obtain ⟨t, ht⟩ : ∃ t, nparts s (n - s) = t + 1 := ⟨_, (Nat.succ_pred_eq_of_pos this).symm⟩
      rw [ht] at b ⊢
      rw [Nat.add_sub_cancel] at b
      rw [Nat.add_mul]; omega
theorem nums2 {i N : Nat} (hi : i ≤ 1000000) (hN : N ≤ 1000000) (c : List Int) : numsL 2 (nm (i : Int) ++ nm (N : Int) ++ c) = some ([(i : Int), (N : Int)], c) := by
  have := numsL_mk (xs := [(i : Int), (N : Int)]) (r := c) (by
    intro y hy
    simp only [List.mem_cons, List.not_mem_nil, or_false] at hy
    rcases hy with rfl | rfl <;> exact ⟨by omega, by omega⟩)
  simpa using this
/-- parts are read together -/
theorem whole_PF {s N : Nat} (hs : 0 < s) (hN : N ≤ 100000) : ∀ (m i : Nat) (acc w : List Int), 0 < i → N = i + m → m = nparts s w.length → wholeL N i s acc (PF s N i w m) = some (acc ++ w, s)
  | 0, i, acc, w, hi, hm, hn => by
    have := nparts_end hs w.length
    rw [← hn] at this
    have : w = [] := List.length_eq_zero_iff.1 (by omega)
    subst this
    simp [PF, wholeL]
  | m + 1, i, acc, w, hi, hm, hn => by
    rw [PF_succ]
    simp only [wholeL]
    rw [nums2 (by omega) (by omega)]
    have hpos : 0 < w.length := by
      have := (nparts_lt hs w.length 0).1 (by omega)
      omega
    have hst := nparts_step hs hpos
    simp only [and_self, if_true]
    rw [if_neg (by omega), if_neg (by
      rw [List.length_take]
      intro h
      rcases h with h | h | h
      · omega
      · omega
      · have := (nparts_lt hs w.length 1).1 (by omega)
        omega), whole_PF hs hN m (i + 1) (acc ++ w.take s) (w.drop s) (by omega) (by omega) (by rw [List.length_drop]; omega)]
    rw [List.append_assoc, List.take_append_drop]
theorem whole_PF0 {s N : Nat} (hs : 0 < s) (hN : N ≤ 100000) (w : List Int) (hw : w ≠ []) (hm : N = nparts s w.length) : wholeL N 0 0 [] (PF s N 0 w N) = some (w, min s w.length) := by
  have hpos : 0 < w.length := List.length_pos_iff.2 hw
  have hst := nparts_step hs hpos
  obtain ⟨m, hm'⟩ : ∃ m, N = m + 1 := ⟨nparts s (w.length - s), by omega⟩
  rw [hm', PF_succ, ← hm']
  simp only [wholeL]
  rw [nums2 (by omega) (by omega)]
  simp only [Int.ofNat_zero, and_self, if_true, List.nil_append, List.length_take]
  by_cases h0 : m = 0
  · subst h0
    have h1 : w.length ≤ s := by
      have := nparts_end hs w.length
      rw [← hm, hm'] at this; omega
    simp only [PF, List.range_zero, List.map_nil, wholeL]
    rw [List.take_of_length_le h1]
  · have h1 : s < w.length := by
      have := (nparts_lt hs w.length 1).1 (by omega)
      omega
    rw [Nat.min_eq_left (by omega)]
    rw [whole_PF hs hN m 1 (w.take s) (w.drop s) (by omega) (by omega) (by rw [List.length_drop]; omega), List.take_append_drop]
theorem numsL2_inv {p : List Int} {k n : Int} {c : List Int} (hp : isB p) (h : numsL 2 p = some ([k, n], c)) : p = nm k ++ nm n ++ c := by
  obtain ⟨e1, _, _⟩ := numsL_inv 2 hp h
  rw [e1]; simp
/-- and what is read together were parts -/
theorem whole_inv {N s : Nat} (hs : 0 < s) : ∀ (L : List (List Int)) (i : Nat) (acc w : List Int) (s' : Nat), (∀ l ∈ L, isB l) → 0 < i → N = i + L.length → wholeL N i s acc L = some (w, s') →
    s' = s ∧ ∃ w', w = acc ++ w' ∧ L.length = nparts s w'.length ∧ L = PF s N i w' L.length
  | [], i, acc, w, s', hB, hi, hN, h => by
    simp only [wholeL, Option.some.injEq, Prod.mk.injEq] at h
    exact ⟨h.2.symm, [], by simp [h.1], by simp [nparts_zero hs], by simp [PF]⟩
  | p :: r, i, acc, w, s', hB, hi, hN, h => by
    simp only [wholeL] at h
    split at h
    · rename_i k n c h5
      have hp := numsL2_inv (hB p (by simp)) h5
      split at h
      · rename_i hkn
        rw [if_neg (by omega)] at h
        split at h
        · cases h
        · rename_i hc
          have hr : ∀ l ∈ r, isB l := fun l hl => hB l (by simp [hl])
          simp only [List.length_cons] at hN
          obtain ⟨e1, w', e2, e3, e4⟩ := whole_inv hs r (i + 1) (acc ++ c) w s' hr (by omega) (by omega) h
          have hcl : c.length ≤ s ∧ 0 < c.length := by omega
          refine ⟨e1, c ++ w', by rw [e2, List.append_assoc], ?_, ?_⟩
          · rw [List.length_cons, List.length_append, nparts_step hs (by omega), e3]
            by_cases h0 : r.length = 0
            · have hz : w'.length = 0 := by
                have := nparts_end hs w'.length
                rw [← e3, h0] at this; omega
              rw [hz, nparts_zero hs]
              have : c.length + 0 - s = 0 := by omega
              rw [this, nparts_zero hs]
            · have : c.length + w'.length - s = w'.length := by omega
              rw [this]
          · rw [List.length_cons, PF_succ, hp, hkn.1, hkn.2]
            by_cases h0 : r.length = 0
            · have hz : r = [] := List.length_eq_zero_iff.1 h0
              have hw' : w' = [] := List.length_eq_zero_iff.1 (by
                have := nparts_end hs w'.length
                rw [← e3, h0] at this; omega)
              subst hz hw'
              simp only [List.append_nil, List.length_nil, PF, List.range_zero, List.map_nil]
              rw [List.take_of_length_le hcl.1]
            · have hcs : c.length = s := by omega
              rw [List.take_left' hcs, List.drop_left' hcs, ← e4]
      · cases h
    · cases h
theorem whole_inv0 {N : Nat} {L : List (List Int)} {w : List Int} {s : Nat} (hB : ∀ l ∈ L, isB l) (hN : N = L.length) (h0 : L ≠ []) (h : wholeL N 0 0 [] L = some (w, s)) (hs : 0 < s) :
    L.length = nparts s w.length ∧ L = PF s N 0 w L.length := by
  cases L with
  | nil => exact absurd rfl h0
  | cons p r =>
    simp only [wholeL] at h
    split at h
    · rename_i k n c h5
      have hp := numsL2_inv (hB p (by simp)) h5
      split at h
      · rename_i hkn
        simp only [if_true] at h
        have hr : ∀ l ∈ r, isB l := fun l hl => hB l (by simp [hl])
        simp only [List.length_cons] at hN
        by_cases hc0 : 0 < c.length
        · obtain ⟨e1, w', e2, e3, e4⟩ := whole_inv (s := c.length) hc0 r 1 ([] ++ c) w s hr (by omega) (by omega) h
          subst e1
          simp only [List.nil_append] at e2
          refine ⟨?_, ?_⟩
          · rw [List.length_cons, e2, List.length_append, nparts_step hc0 (by omega), e3, Nat.add_sub_cancel_left]
          · rw [List.length_cons, PF_succ, hp, hkn.1, hkn.2, e2, List.take_left, List.drop_left, ← e4]
        · have hz : c = [] := List.length_eq_zero_iff.1 (by omega)
          subst hz
          exfalso
          cases r with
          | nil =>
            simp only [wholeL, Option.some.injEq, Prod.mk.injEq] at h
            have := h.2
            simp at this; omega
          | cons p2 r2 =>
            simp only [wholeL] at h
            split at h
            · split at h
              · rw [if_neg (by omega)] at h
                split at h
                · cases h
                · rename_i hcc
                  simp only [List.length_nil] at hcc
                  omega
              · cases h
            · cases h
      · cases h
    · cases h
/-- these parts say this -/
def Says (ps : List ByteArray) (M : List Q) (G : List Int) : Prop := validQ M G = true ∧ ∃ room : Int, 8 ≤ room ∧ room ≤ 224 ∧ ps = putQ M G room
theorem putQ_ok {M : List Q} {G : List Int} {room : Int} (hv : validQ M G = true) (h1 : 8 ≤ room) (h2 : room ≤ 224) :
    putQ M G room = (PF (room.toNat - 6) (nparts (room.toNat - 6) (bytesQ M G).length) 0 (bytesQ M G) (nparts (room.toNat - 6) (bytesQ M G).length)).map strOfNums := by
  unfold putQ
  have d1 : decide (8 ≤ room) = true := by simpa using h1
  have d2 : decide (room ≤ 224) = true := by simpa using h2
  rw [hv, d1, d2, putL_PF]; rfl
theorem map_str {L L' : List (List Int)} (h1 : ∀ l ∈ L, isB l) (h2 : ∀ l ∈ L', isB l) (h : L.map strOfNums = L'.map strOfNums) : L = L' := by
  have e : ∀ L : List (List Int), (∀ l ∈ L, isB l) → (L.map strOfNums).map byts = L := by
    intro L hL
    rw [List.map_map]
    conv => rhs; rw [← List.map_id L]
    exact List.map_congr_left fun l hl => byts_strOfNums (hL l hl)
  rw [← e L h1, ← e L' h2, h]
/-- what reading gives back -/
def ReadsTo (ps : List ByteArray) (r : (List RootEntry) × (List Int) × Bool) : Prop :=
  (r.2.2 = true ∧ Says ps (r.1.map qM) r.2.1) ∨ (r = emptyE ∧ ∀ M G, ¬ Says ps M G)
theorem root_Get_reads (L : List (List Int)) (hB : ∀ l ∈ L, isB l) (hn : L.length ≤ 100000) (hs : ∀ l ∈ L, l.length ≤ 100000) : ∃ r, root_Get (L.map strOfNums) = some r ∧ ReadsTo (L.map strOfNums) r := by
  refine ⟨_, root_Get_eq L hB hn hs, ?_⟩
  by_cases hS : ∃ M G, Says (L.map strOfNums) M G
  · obtain ⟨M, G, hv, room, h1, h2, he⟩ := hS
    rw [putQ_ok hv h1 h2] at he
    obtain ⟨c, hc⟩ : ∃ c, c = room.toNat - 6 := ⟨_, rfl⟩
    obtain ⟨w, hw⟩ : ∃ w, w = bytesQ M G := ⟨_, rfl⟩
    have hwB : isB w := by rw [hw]; exact bytesQ_isB M G
    have hw2 : 2 ≤ w.length := by rw [hw]; exact bytesQ_ge M G
    rw [← hc, ← hw] at he
    have hL := map_str hB (PF_isB _ _ _ _ _ hwB) he
    have hlen : L.length = nparts c w.length := by rw [hL, PF_len]
    have hc0 : 0 < c := by omega
    have e1 : wholeL L.length 0 0 [] L = some (w, min c w.length) := by
      have := whole_PF0 (N := L.length) hc0 hn w (by intro e; rw [e] at hw2; simp at hw2) hlen
      conv at this => lhs; rw [hlen, ← hL, ← hlen]
      exact this
    have e2 : readQ w = some (M, G) := by rw [hw]; exact readQ_mk hv
    have hcond : min c w.length ≤ 218 ∧ (L.length ≤ 1 ∨ 2 ≤ min c w.length) := by omega
    rw [e1]
    simp only
    rw [if_pos hcond, e2]
    exact .inl ⟨rfl, by rw [qM_mkM]; exact ⟨hv, room, h1, h2, by rw [putQ_ok hv h1 h2, ← hc, ← hw]; exact he⟩⟩
  · have hno : ∀ M G, ¬ Says (L.map strOfNums) M G := fun M G h => hS ⟨M, G, h⟩
    cases e1 : wholeL L.length 0 0 [] L with
    | none => exact .inr ⟨rfl, hno⟩
    | some p =>
      obtain ⟨w, s⟩ := p
      simp only
      by_cases hcond : s ≤ 218 ∧ (L.length ≤ 1 ∨ 2 ≤ s)
      · rw [if_pos hcond]
        cases e2 : readQ w with
        | none => exact .inr ⟨rfl, hno⟩
        | some q =>
          obtain ⟨M, G⟩ := q
          exfalso
          have hwB := wholeL_isB _ _ _ _ _ _ _ hB isB_nil e1
          obtain ⟨hv, hw⟩ := readQ_inv hwB e2
          have hw2 : 2 ≤ w.length := by rw [hw]; exact bytesQ_ge M G
          have hL0 : L ≠ [] := by
            intro e
            subst e
            simp only [wholeL, Option.some.injEq, Prod.mk.injEq] at e1
            rw [← e1.1] at hw2; simp at hw2
          have hs0 : 2 ≤ s := by
            rcases hcond.2 with h | h
            · have hL1 : L.length = 1 := by have := List.length_pos_iff.2 hL0; omega
              match L, hL1 with
              | [p], _ =>
                simp only [wholeL] at e1
                split at e1
                · split at e1
                  · simp only [if_true, Option.some.injEq, Prod.mk.injEq, List.nil_append] at e1
                    rw [← e1.2, e1.1]; exact hw2
                  · cases e1
                · cases e1
            · exact h
          obtain ⟨f1, f2⟩ := whole_inv0 hB rfl hL0 e1 (by omega)
          refine hno M G ⟨hv, ((s + 6 : Nat) : Int), by omega, by omega, ?_⟩
          have hr : ((s + 6 : Nat) : Int).toNat - 6 = s := by omega
          rw [putQ_ok hv (by omega) (by omega), hr, ← hw, ← f1, ← f2]
      · rw [if_neg hcond]
        exact .inr ⟨rfl, hno⟩
end Go.Cen
