/- ROOT: the laws of reading and of the parts' count. -/
import Derived.Test.YthdoklobbcedcabRootK
set_option linter.unusedVariables false
set_option linter.unusedSimpArgs false
namespace Go.Cen
theorem says_whole {L : List (List Int)} (hB : ∀ l ∈ L, isB l) (hn : L.length ≤ 100000) {M : List Q} {G : List Int} (h : Says (L.map strOfNums) M G) : ∃ s, wholeL L.length 0 0 [] L = some (bytesQ M G, s) := by
  obtain ⟨hv, room, h1, h2, he⟩ := h
  rw [putQ_ok hv h1 h2] at he
  obtain ⟨c, hc⟩ : ∃ c, c = room.toNat - 6 := ⟨_, rfl⟩
  obtain ⟨w, hw⟩ : ∃ w, w = bytesQ M G := ⟨_, rfl⟩
  have hwB : isB w := by rw [hw]; exact bytesQ_isB M G
  have hw2 : 2 ≤ w.length := by rw [hw]; exact bytesQ_ge M G
  rw [← hc, ← hw] at he
  have hL := map_str hB (PF_isB _ _ _ _ _ hwB) he
  have hlen : L.length = nparts c w.length := by rw [hL, PF_len]
  have := whole_PF0 (N := L.length) (s := c) (by omega) hn w (by intro e; rw [e] at hw2; simp at hw2) hlen
  conv at this => lhs; rw [hlen, ← hL, ← hlen]
  rw [← hw]
  exact ⟨_, this⟩
theorem says_uniq {L : List (List Int)} (hB : ∀ l ∈ L, isB l) (hn : L.length ≤ 100000) {M M' : List Q} {G G' : List Int} (h : Says (L.map strOfNums) M G) (h' : Says (L.map strOfNums) M' G') : M = M' ∧ G = G' := by
  obtain ⟨s, e⟩ := says_whole hB hn h
  obtain ⟨s', e'⟩ := says_whole hB hn h'
  rw [e] at e'
  simp only [Option.some.injEq, Prod.mk.injEq] at e'
  have a := readQ_mk h.1
  have b := readQ_mk h'.1
  rw [e'.1, b] at a
  simp only [Option.some.injEq, Prod.mk.injEq] at a
  exact ⟨a.1.symm, a.2.symm⟩
/-- each part tells its place and how many there are -/
theorem says_head {L : List (List Int)} (hB : ∀ l ∈ L, isB l) {M : List Q} {G : List Int} (h : Says (L.map strOfNums) M G) : 1 ≤ L.length ∧ ∀ (i : Nat) (hi : i < L.length), ∃ c, L[i] = nm (i : Int) ++ nm (L.length : Int) ++ c := by
  obtain ⟨hv, room, h1, h2, he⟩ := h
  have hne := putQ_ne hv h1 h2
  rw [← he, List.length_map] at hne
  rw [putQ_ok hv h1 h2] at he
  obtain ⟨N, hN⟩ : ∃ N, N = nparts (room.toNat - 6) (bytesQ M G).length := ⟨_, rfl⟩
  have hL := map_str hB (PF_isB _ _ _ _ _ (bytesQ_isB M G)) he
  rw [← hN] at hL
  have hlen : L.length = N := by rw [hL, PF_len]
  refine ⟨hne, fun i hi => ?_⟩
  have e : L[i] = (PF (room.toNat - 6) N 0 (bytesQ M G) N)[i]'(by rw [PF_len]; omega) := by
    congr 1
  rw [e, hlen]
  simp only [PF, List.getElem_map, List.getElem_range, Nat.zero_add]
  exact ⟨_, rfl⟩
theorem bytes_list (ps : List ByteArray) : (ps.map byts).map strOfNums = ps := by
  rw [List.map_map]
  conv => rhs; rw [← List.map_id ps]
  exact List.map_congr_left fun l hl => strOfNums_byts l
theorem says_valid_len {ps : List ByteArray} {M : List Q} {G : List Int} (h : Says ps M G) : M.length ≤ 400 ∧ G.length ≤ 100 := valid_len h.1
theorem law15_RootGets_eq (ps : List ByteArray) : law15_RootGets ps = some true := by
  unfold law15_RootGets
  rw [works15]
  simp only [Option.bind_some, Bool.not_true, Bool.false_eq_true, if_false, if_true]
  by_cases h60 : ps.length ≤ 60
  · have d1 : decide ((ps.length : Int) > 60) = false := by simp; omega
    have := loop_idx ps (by omega) (fun s => decide ((s.size : Int) > 300)) (fun _ => true) (fun k i => law15_RootGets.l0 ps true k i)
      (fun k hd => by simp only [law15_RootGets.l0, hd]; rfl)
      (fun k i hi hd hg hw => by simp only [decide_true, if_true, and_self, Option.bind_some, law15_RootGets.l0, hd, hg, hw])
    rw [this]
    simp only [d1, Bool.false_eq_true, if_false]
    by_cases h3 : fidx (fun s : ByteArray => decide ((s.size : Int) > 300)) ps < 0
    · simp only [if_pos h3, Option.bind_some]
      have hall : ∀ s ∈ ps, s.size ≤ 300 := by
        have h4 := fidx_any (fun s : ByteArray => decide ((s.size : Int) > 300)) ps
        have h5 : decide (fidx (fun s : ByteArray => decide ((s.size : Int) > 300)) ps ≥ 0) = false := by simp; omega
        rw [h5] at h4
        intro s hs
        have h6 := List.any_eq_false.1 h4.symm s hs
        simp at h6; omega
      obtain ⟨L, hL⟩ : ∃ L, L = ps.map byts := ⟨_, rfl⟩
      have hps : L.map strOfNums = ps := by rw [hL]; exact bytes_list ps
      have hB : ∀ l ∈ L, isB l := by
        intro l hl; rw [hL] at hl; obtain ⟨s, _, rfl⟩ := List.mem_map.1 hl; exact byts_isB s
      have hLn : L.length ≤ 100000 := by rw [hL, List.length_map]; omega
      have hLs : ∀ l ∈ L, l.length ≤ 100000 := by
        intro l hl; rw [hL] at hl; obtain ⟨s, hs, rfl⟩ := List.mem_map.1 hl
        have := hall s hs
        rw [byts_len]; omega
      obtain ⟨⟨M, G, b⟩, e1, r1⟩ := root_Get_reads L hB hLn hLs
      obtain ⟨⟨M', G', b'⟩, e2, r2⟩ := ref15_Get_reads L hB hLn hLs
      rw [hps] at e1 r1 e2 r2
      rw [e1, e2]
      simp only [Option.bind_some]
      rcases r1 with ⟨hb, hs⟩ | ⟨hb, hs⟩ <;> rcases r2 with ⟨hb', hs'⟩ | ⟨hb', hs'⟩
      · simp only at hb hb' hs hs'
        have hu := says_uniq hB hLn (by rw [hps]; exact hs) (by rw [hps]; exact hs')
        have hvl := says_valid_len hs
        rw [List.length_map] at hvl
        rw [law15_Of_eq M G (by omega)]
        simp only [Option.bind_some]
        rw [ref15_Same_eq _ _ _ _ (by simp; omega) (by omega), map_toR, hu.1, hu.2, hb, hb']
        simp
      · exact absurd hs (hs' _ _)
      · exact absurd hs' (hs _ _)
      · simp only [emptyE, emptyR, Prod.mk.injEq] at hb hb'
        obtain ⟨rfl, rfl, rfl⟩ := hb
        obtain ⟨rfl, rfl, rfl⟩ := hb'
        rw [law15_Of_eq [] [] (by simp)]
        simp only [Option.bind_some]
        rw [ref15_Same_eq _ _ _ _ (by simp) (by simp)]
        rfl
    · simp only [if_neg h3, Option.bind_some]
  · have d1 : decide ((ps.length : Int) > 60) = true := by simp; omega
    simp only [d1, if_true]
theorem nparts_anti {c d : Nat} (hc : 0 < c) (h : c ≤ d) (n : Nat) : nparts d n ≤ nparts c n := by
  by_cases hlt : nparts c n < nparts d n
  · have a := (nparts_lt (c := d) (by omega) n (nparts c n)).1 hlt
    have b := nparts_end hc n
    have := Nat.mul_le_mul_left (nparts c n) h
    omega
  · omega
theorem putQ_count {M : List Q} {G : List Int} {room : Int} (hv : validQ M G = true) (h1 : 8 ≤ room) (h2 : room ≤ 224) : (putQ M G room).length = nparts (room.toNat - 6) (bytesQ M G).length := by
  rw [putQ_ok hv h1 h2, List.length_map, PF_len]
theorem law15_RootParts_eq (M : List RootEntry) (G : List Int) (room : Int) : law15_RootParts M G room = some true := by
  unfold law15_RootParts
  rw [works15, root_Valid_eq]
  simp only [Option.bind_some, Bool.not_true, Bool.false_eq_true, if_false, orS, if_true]
  by_cases hc : (decide ((M.length : Int) > 60) || (decide ((G.length : Int) > 60) || (decide (room < 8) || (decide (room ≥ 224) || !validQ (M.map qM) G)))) = true
  · rw [if_pos hc]
  · rw [if_neg hc]
    simp only [Bool.or_eq_true, decide_eq_true_eq, Bool.not_eq_true'] at hc
    have hv : validQ (M.map qM) G = true := by
      cases h : validQ (M.map qM) G with
      | true => rfl
      | false => exact absurd (.inr (.inr (.inr (.inr h)))) hc
    have h1 : 8 ≤ room := by omega
    have h2 : room < 224 := by omega
    have hw : wi64 (room + 1) = room + 1 := wi64_id (by omega)
    simp only [hw, root_Put_eq, Option.bind_some]
    have c1 := putQ_count hv h1 (by omega)
    have c2 := putQ_count (room := room + 1) hv (by omega) (by omega)
    have c3 := putQ_count (room := 224) hv (by omega) (by omega)
    have n2 := putQ_ne (room := room + 1) hv (by omega) (by omega)
    have a1 := nparts_anti (c := room.toNat - 6) (d := (room + 1).toNat - 6) (by omega) (by omega) (bytesQ (M.map qM) G).length
    have a2 := nparts_anti (c := (room + 1).toNat - 6) (d := (224 : Int).toNat - 6) (by omega) (by omega) (bytesQ (M.map qM) G).length
    have d1 : decide (((putQ (M.map qM) G room).length : Int) ≥ ((putQ (M.map qM) G (room + 1)).length : Int)) = true := by simp; omega
    have d2 : decide (((putQ (M.map qM) G (room + 1)).length : Int) ≥ 1) = true := by simp; omega
    have d3 : decide (((putQ (M.map qM) G 224).length : Int) ≤ ((putQ (M.map qM) G (room + 1)).length : Int)) = true := by simp; omega
    simp only [d1, d2, d3, if_true, Option.bind_some]
end Go.Cen
