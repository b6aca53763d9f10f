/- ROOT: the law of putting and getting back. -/
import Derived.Test.YthdoklobbcedcabRootL
set_option linter.unusedVariables false
set_option linter.unusedSimpArgs false
namespace Go.Cen
theorem nm_short {n : Nat} (h : n < 16384) : (nm (n : Int)).length ≤ 2 := by
  rw [nm_nat (by omega)]
  exact numL_len 1 n (by omega)
theorem nm_inj {a b : Nat} (ha : a ≤ 1000000) (hb : b ≤ 1000000) {r s : List Int} (h : nm (a : Int) ++ r = nm (b : Int) ++ s) : a = b ∧ r = s := by
  have ha' : smallI (a : Int) := ⟨by omega, by omega⟩
  have hb' : smallI (b : Int) := ⟨by omega, by omega⟩
  have e1 := getN_nm ha' r
  have e2 := getN_nm hb' s
  rw [h, e2] at e1
  simp only [Option.some.injEq, Prod.mk.injEq, Int.toNat_natCast] at e1
  exact ⟨e1.1.symm, e1.2.symm⟩
theorem reads_not {L : List (List Int)} (hB : ∀ l ∈ L, isB l) (hn : L.length ≤ 100000) (hs : ∀ l ∈ L, l.length ≤ 100000) (hno : ∀ M G, ¬ Says (L.map strOfNums) M G) : root_Get (L.map strOfNums) = some emptyE := by
  obtain ⟨r, e, h⟩ := root_Get_reads L hB hn hs
  rcases h with ⟨_, h⟩ | ⟨h, _⟩
  · exact absurd h (hno _ _)
  · rw [e, h]
theorem law15_RootBack_eq (M : List RootEntry) (G : List Int) (room at_ : Int) (hat : -9223372036854775808 ≤ at_ ∧ at_ < 9223372036854775808) : law15_RootBack M G room at_ = some true := by
  unfold law15_RootBack
  have hLIM := LIM_val
  rw [works15, root_Valid_eq, root_Put_eq]
  simp only [Option.bind_some, Bool.not_true, Bool.false_eq_true, if_false, orS, andS, if_true, Bool.true_and]
  by_cases hc : (decide ((M.length : Int) > 60) || (decide ((G.length : Int) > 60) || (((putQ (M.map qM) G room).length : Int) == 0))) = true
  · rw [if_pos hc]
    by_cases h1 : (M.length : Int) > 60
    · simp [h1]
    · by_cases h2 : (G.length : Int) > 60
      · simp [h2]
      · have h3 : (putQ (M.map qM) G room).length = 0 := by simpa [h1, h2] using hc
        by_cases hv : validQ (M.map qM) G = true
        · by_cases h4 : room < 8
          · simp [h4]
          · by_cases h5 : room > 224
            · simp [h5]
            · have := putQ_ne (room := room) hv (by omega) (by omega)
              omega
        · have : validQ (M.map qM) G = false := by simpa using hv
          simp [this]
  · rw [if_neg hc]
    simp only [Bool.or_eq_true, decide_eq_true_eq, beq_iff_eq] at hc
    have hM : M.length ≤ 60 := by omega
    have hG : G.length ≤ 60 := by omega
    have hne : (putQ (M.map qM) G room).length ≠ 0 := by omega
    have hv : validQ (M.map qM) G = true := by
      cases h : validQ (M.map qM) G with
      | true => rfl
      | false => rw [putQ_bad (by simp [h])] at hne; simp at hne
    have hroom : 8 ≤ room ∧ room ≤ 224 := by
      unfold putQ at hne
      rw [hv] at hne
      by_cases h8 : 8 ≤ room
      · by_cases h9 : room ≤ 224
        · exact ⟨h8, h9⟩
        · simp [h9] at hne
      · simp [h8] at hne
    have hsays : Says (putQ (M.map qM) G room) (M.map qM) G := ⟨hv, room, hroom.1, hroom.2, rfl⟩
    obtain ⟨w, hw⟩ : ∃ w, w = bytesQ (M.map qM) G := ⟨_, rfl⟩
    have hwB : isB w := by rw [hw]; exact bytesQ_isB _ _
    have hwl : w.length ≤ 3000 := by
      have := bytesQ_len (M.map qM) G
      rw [hw]; rw [List.length_map] at this; omega
    obtain ⟨N, hN⟩ : ∃ N, N = nparts (room.toNat - 6) w.length := ⟨_, rfl⟩
    have hNl : N ≤ 3000 := by
      have := nparts_le (c := room.toNat - 6) (by omega) w.length
      omega
    obtain ⟨L, hL⟩ : ∃ L, L = PF (room.toNat - 6) N 0 w N := ⟨_, rfl⟩
    have hput : putQ (M.map qM) G room = L.map strOfNums := by rw [putQ_ok hv hroom.1 hroom.2, ← hw, ← hN, hL]
    have hLl : L.length = N := by rw [hL, PF_len]
    have hB : ∀ l ∈ L, isB l := by rw [hL]; exact PF_isB _ _ _ _ _ hwB
    have hLs : ∀ l ∈ L, l.length ≤ 100000 := by
      intro l hl
      rw [hL] at hl
      have := PF_part _ _ _ _ _ l hl
      omega
    rw [hput] at hne hsays ⊢
    rw [List.length_map] at hne
    obtain ⟨hn1, hpart⟩ := says_head hB hsays
    obtain ⟨⟨M', G', b⟩, e1, r1⟩ := root_Get_reads L hB (by omega) hLs
    rw [e1]
    have hb : b = true ∧ M'.map qM = M.map qM ∧ G' = G := by
      rcases r1 with ⟨hb, hs⟩ | ⟨_, hs⟩
      · have := says_uniq hB (by omega) hs hsays
        exact ⟨hb, this.1, this.2⟩
      · exact absurd hsays (hs _ _)
    obtain ⟨rfl, hM', rfl⟩ := hb
    have hM'l : M'.length = M.length := by simpa using congrArg List.length hM'
    simp only [Option.bind_some, Bool.not_true]
    rw [root_Same_eq _ _ _ _ (by omega) (by omega), hM']
    simp only [Option.bind_some, decide_true, Bool.and_self, Bool.not_true, Bool.or_self, Bool.false_eq_true, if_false]
    have hidx := loop_idx (L.map strOfNums) (by simp; omega) (fun s => decide ((s.size : Int) > room)) (fun _ => false) (fun k i => law15_RootBack.l0 (L.map strOfNums) room k i)
      (fun k hd => by simp only [law15_RootBack.l0, hd]; rfl)
      (fun k i hi hd hg hw => by simp only [decide_true, if_true, and_self, Option.bind_some, law15_RootBack.l0, hd, hg, hw])
    have hno : fidx (fun s : ByteArray => decide ((s.size : Int) > room)) (L.map strOfNums) < 0 := by
      have h4 := fidx_any (fun s : ByteArray => decide ((s.size : Int) > room)) (L.map strOfNums)
      have h5 : (L.map strOfNums).any (fun s : ByteArray => decide ((s.size : Int) > room)) = false := by
        rw [List.any_eq_false]
        intro s hs
        obtain ⟨l, hl, rfl⟩ := List.mem_map.1 hs
        rw [hL] at hl
        simp only [PF, List.mem_map, List.mem_range] at hl
        obtain ⟨j, hj, rfl⟩ := hl
        have a1 := nm_short (n := 0 + j) (by omega)
        have a2 := nm_short (n := N) (by omega)
        rw [strOfNums_size]
        simp only [List.length_append, List.length_take, decide_eq_true_eq]
        omega
      rw [h5] at h4
      have := of_decide_eq_false h4
      omega
    rw [hidx, if_pos hno]
    simp only [Option.bind_some, List.length_map]
    have hw1 : wi64 ((L.length : Int) - 1) = (L.length : Int) - 1 := wi64_id (by omega)
    rw [hw1, if_pos (by omega)]
    -- without its last part
    have hsub1 : sub (L.map strOfNums) 0 ((L.length : Int) - 1) = (L.take (L.length - 1)).map strOfNums := by
      simp only [sub, Int.toNat_zero, List.drop_zero, Nat.sub_zero, List.map_take]
      congr 1; omega
    have hget1 : root_Get ((L.take (L.length - 1)).map strOfNums) = some emptyE := by
      have hB' : ∀ l ∈ L.take (L.length - 1), isB l := fun l hl => hB l (List.mem_of_mem_take hl)
      refine reads_not hB' (by simp; omega) (fun l hl => hLs l (List.mem_of_mem_take hl)) ?_
      intro M2 G2 hs2
      obtain ⟨g1, g2⟩ := says_head hB' hs2
      have hlt : (L.take (L.length - 1)).length = L.length - 1 := by rw [List.length_take]; omega
      obtain ⟨c, hc⟩ := g2 0 (by omega)
      obtain ⟨c', hc'⟩ := hpart 0 (by omega)
      rw [List.getElem_take, hc', List.append_assoc, List.append_assoc] at hc
      have := nm_inj (by omega) (by omega) hc
      have := (nm_inj (by omega) (by omega) this.2).1
      omega
    rw [hsub1, hget1]
    simp only [emptyE, Option.bind_some, Bool.false_eq_true, if_false]
    by_cases h2 : L.length < 2
    · have d2 : decide ((L.length : Int) < 2) = true := by simp; omega
      simp [d2]
    · have d2 : decide ((L.length : Int) < 2) = false := by simp; omega
      by_cases h3 : at_ < 0
      · simp [d2, h3]
      · have d3 : decide (at_ < 0) = false := by simp; omega
        have hw2 : wi64 ((L.length : Int) - 2) = (L.length : Int) - 2 := wi64_id (by omega)
        simp only [d2, d3, hw2, Bool.false_eq_true, if_false, Option.bind_some]
        by_cases h4 : at_ > (L.length : Int) - 2
        · have d4 : decide (at_ > (L.length : Int) - 2) = true := by simp; omega
          simp [d4]
        · have d4 : decide (at_ > (L.length : Int) - 2) = false := by simp; omega
          obtain ⟨t, ht⟩ : ∃ t : Nat, at_ = (t : Int) := ⟨at_.toNat, by omega⟩
          subst ht
          have hw3 : wi64 ((t : Int) + 1) = ((t + 1 : Nat) : Int) := by rw [wi64_id (by omega)]; omega
          have hw4 : wi64 ((t : Int) + 2) = ((t + 2 : Nat) : Int) := by rw [wi64_id (by omega)]; omega
          have hs0 : sub (L.map strOfNums) 0 (t : Int) = (L.take t).map strOfNums := by
            simp [sub, List.map_take]
          have hs2 : sub (L.map strOfNums) ((t + 2 : Nat) : Int) (L.length : Int) = (L.drop (t + 2)).map strOfNums := by
            simp only [sub, Int.toNat_natCast, List.map_drop]
            exact List.take_of_length_le (by simp)
          simp only [d4, Bool.false_eq_true, if_false, hw3, hw4, hs0, hs2, List.nil_append, List.length_nil]
          rw [if_pos (by omega), if_pos (by simp; omega), if_pos (by omega), if_pos (by omega), if_pos (by simp; omega), if_pos (by omega), if_pos (by simp; omega), gt_map strOfNums L (t + 1) (by omega), gt_map strOfNums L t (by omega)]
          have e : (L.take t).map strOfNums ++ [strOfNums L[t + 1], strOfNums L[t]] ++ (L.drop (t + 2)).map strOfNums = (L.take t ++ [L[t + 1], L[t]] ++ L.drop (t + 2)).map strOfNums := by simp
          rw [e]
          obtain ⟨L', hL'⟩ : ∃ x, x = L.take t ++ [L[t + 1], L[t]] ++ L.drop (t + 2) := ⟨_, rfl⟩
          have hmem : ∀ l ∈ L', l ∈ L := by
            intro l hl
            rw [hL'] at hl
            simp only [List.mem_append, List.mem_cons, List.not_mem_nil, or_false] at hl
            rcases hl with (h | h | h) | h
            · exact List.mem_of_mem_take h
            · rw [h]; exact List.getElem_mem _
            · rw [h]; exact List.getElem_mem _
            · exact List.mem_of_mem_drop h
          have hB' : ∀ l ∈ L', isB l := fun l hl => hB l (hmem l hl)
          have hlen' : L'.length = L.length := by rw [hL']; simp; omega
          have hget2 : root_Get (L'.map strOfNums) = some emptyE := by
            refine reads_not hB' (by omega) (fun l hl => hLs l (hmem l hl)) ?_
            intro M2 G2 hs2
            obtain ⟨g1, g2⟩ := says_head hB' hs2
            obtain ⟨c, hc⟩ := g2 t (by omega)
            have hx : L'[t]'(by omega) = L[t + 1] := by
              simp only [hL']
              rw [List.getElem_append_left (by simp; omega), List.getElem_append_right (by simp; omega)]
              have e0 : t - (List.take t L).length = 0 := by rw [List.length_take]; omega
              simp only [e0]
              rfl
            obtain ⟨c', hc'⟩ := hpart (t + 1) (by omega)
            rw [hx, hc', List.append_assoc, List.append_assoc] at hc
            have := (nm_inj (by omega) (by omega) hc).1
            omega
          rw [← hL', hget2]
          rfl
end Go.Cen
