/- ROOT: the reference's reading. -/
import Derived.Test.YthdoklobbcedcabRootJ
set_option linter.unusedVariables false
set_option linter.unusedSimpArgs false
namespace Go.Cen
theorem take_set_succ {α : Type} : ∀ (l : List α) (i : Nat) (v : α), i < l.length → (l.set i v).take (i + 1) = l.take i ++ [v]
  | [], i, v, h => by simp at h
  | x :: l, 0, v, h => by simp
  | x :: l, i + 1, v, h => by
    have := take_set_succ l i v (by simpa using h)
    simp [this]
theorem read_l1 (l : List Int) (hl : isB l) (arr : List Int) (ha : arr.length = 4) : ref15_Read.l1 FU (strOfNums l) 0 arr = some (match numsL 4 l with
    | some (xs, r) => .inr (strOfNums r, xs)
    | none => .inl ([], [], false)) := by
  have := loopNI 4 (by omega) (fun k i (s : List Int × List Int) => ref15_Read.l1 k (strOfNums s.1) i s.2)
    (fun i s => some (match numsL (4 - i) s.1 with | some (xs, r) => .inr (strOfNums r, s.2.take i ++ xs) | none => .inl (([] : List Ref15Entry), ([] : List Int), false))) (fun i s => isB s.1 ∧ s.2.length = 4)
    (fun k s hs => by
      have : s.2.take 4 = s.2 := List.take_of_length_le (by omega)
      simp only [ref15_Read.l1, numsL, Nat.sub_self, this, List.append_nil]
      rfl)
    (fun k i hi hw s hs ih => by
      have hd : decide ((i : Int) < 4) = true := by simp; omega
      simp only [decide_true, if_true, and_self, Option.bind_some, ref15_Read.l1, hd, ref04_GetNum_eq _ hs.1, hw]
      obtain ⟨m, hm⟩ : ∃ m, 4 - i = m + 1 := ⟨4 - i - 1, by omega⟩
      have hm' : 4 - (i + 1) = m := by omega
      rw [hm, numsL]
      cases h : getN s.1 with
      | none => rw [getR_no h]; rfl
      | some p =>
        rw [getR_ok (n := p.1) (r := p.2) h]
        simp only [Bool.not_true, Bool.false_eq_true, if_false]
        rw [if_pos (by omega)]
        have := ih (p.2, st s.2 (i : Int) (p.1 : Int)) ⟨isB_getN hs.1 h, by simp [st, hs.2]⟩
        simp only at this
        rw [this, hm']
        have e : (st s.2 (i : Int) (p.1 : Int)).take (i + 1) = s.2.take i ++ [(p.1 : Int)] := by
          unfold st
          rw [Int.toNat_natCast]
          exact take_set_succ _ _ _ (by omega)
        rw [e]
        cases numsL m p.2 with
        | none => rfl
        | some q => simp) (l, arr) ⟨hl, ha⟩
  simp only [Nat.sub_zero, List.take_zero, List.nil_append] at this
  exact this
def emptyR : (List Ref15Entry) × (List Int) × Bool := ([], [], false)
theorem ref15_Read_eq (l : List Int) (hl : isB l) : ref15_Read (strOfNums l) = some (match readQ l with | some (M, G) => (M.map mkR, G, true) | none => emptyR) := by
  have hL := LIM_ge
  unfold ref15_Read
  rw [ref04_GetNum_eq _ hl]
  simp only [Option.bind_some, orS]
  unfold readQ
  cases h : getN l with
  | none => rw [getR_no h]; rfl
  | some p =>
    obtain ⟨n, l1⟩ := p
    rw [getR_ok h]
    simp only [Bool.not_true, Bool.false_or]
    by_cases hn : n ≤ 400
    · have hd : decide ((n : Int) > 400) = false := by simp; omega
      have hB1 := isB_getN hl h
      have a0 := loopNI n (by omega) (fun k i (s : List Int × List Ref15Entry) => ref15_Read.l0 (n : Int) k (strOfNums s.1) i s.2 [])
        (fun i s => some (match rowsL (n - i) s.1 with | some (xs, r) => .inr (strOfNums r, s.2 ++ xs.map mkR, ([] : List Int)) | none => .inl (([] : List Ref15Entry), ([] : List Int), false))) (fun i s => isB s.1 ∧ s.2.length ≤ i)
        (fun k s hs => by
          simp [ref15_Read.l0, rowsL])
        (fun k i hi hw s hs ih => by
          have hd : decide ((i : Int) < (n : Int)) = true := by simp; omega
          simp only [decide_true, if_true, and_self, Option.bind_some, ref15_Read.l0, hd, hw]
          rw [read_l1 s.1 hs.1 _ (by simp)]
          obtain ⟨m, hm⟩ : ∃ m, n - i = m + 1 := ⟨n - i - 1, by omega⟩
          have hm' : n - (i + 1) = m := by omega
          rw [hm, rowsL]
          cases h5 : numsL 4 s.1 with
          | none => rfl
          | some p =>
            obtain ⟨xs, r⟩ := p
            obtain ⟨e1, e2, e3⟩ := numsL_inv 4 hs.1 h5
            match xs, e2 with
            | [a, b, c, d], _ =>
              have g0 : gt [a, b, c, d] 0 = a := rfl
              have g1 : gt [a, b, c, d] 1 = b := rfl
              have g2 : gt [a, b, c, d] 2 = c := rfl
              have g3 : gt [a, b, c, d] 3 = d := rfl
              simp only [Option.bind_some, g0, g1, g2, g3]
              rw [if_pos (by simp; omega)]
              have := ih (r, s.2 ++ [⟨a, b, c, d⟩]) ⟨e3, by simp; omega⟩
              simp only at this
              rw [this, hm']
              cases rowsL m r with
              | none => rfl
              | some q => simp [mkR]) (l1, []) ⟨hB1, by simp⟩
      simp only [Nat.sub_zero] at a0
      simp only [hd, Bool.false_eq_true, if_false, if_pos hn]
      rw [show ref15_Read.l0 (n : Int) FU (strOfNums l1) 0 [] [] = _ from a0]
      cases h2 : rowsL n l1 with
      | none => rfl
      | some p =>
        obtain ⟨M, l2⟩ := p
        obtain ⟨_, _, hB2⟩ := rowsL_inv n hB1 h2
        simp only [Option.bind_some, List.nil_append, ref04_GetNum_eq _ hB2]
        cases h3 : getN l2 with
        | none => rw [getR_no h3]; rfl
        | some p =>
          obtain ⟨g, l3⟩ := p
          rw [getR_ok h3]
          simp only [Bool.not_true, Bool.false_or]
          by_cases hg : g ≤ 100
          · have hd2 : decide ((g : Int) > 100) = false := by simp; omega
            have hB3 := isB_getN hB2 h3
            have b0 := loopNI g (by omega) (fun k i (s : List Int × List Int) => ref15_Read.l2 (g : Int) k (strOfNums s.1) i (M.map mkR) s.2)
              (fun i s => some (match numsL (g - i) s.1 with | some (xs, r) => .inr (strOfNums r, M.map mkR, s.2 ++ xs) | none => .inl (([] : List Ref15Entry), ([] : List Int), false))) (fun i s => isB s.1 ∧ s.2.length ≤ i)
              (fun k s hs => by
                simp [ref15_Read.l2, numsL])
              (fun k i hi hw s hs ih => by
                have hd : decide ((i : Int) < (g : Int)) = true := by simp; omega
                simp only [decide_true, if_true, and_self, Option.bind_some, ref15_Read.l2, hd, hw, ref04_GetNum_eq _ hs.1]
                obtain ⟨m, hm⟩ : ∃ m, g - i = m + 1 := ⟨g - i - 1, by omega⟩
                have hm' : g - (i + 1) = m := by omega
                rw [hm]
                simp only [numsL]
                cases h5 : getN s.1 with
                | none => rw [getR_no h5]; rfl
                | some p =>
                  rw [getR_ok (n := p.1) (r := p.2) h5]
                  simp only [Bool.not_true, Bool.false_eq_true, if_false]
                  rw [if_pos (by simp; omega)]
                  have := ih (p.2, s.2 ++ [(p.1 : Int)]) ⟨isB_getN hs.1 h5, by simp; omega⟩
                  simp only at this
                  rw [this, hm']
                  cases numsL m p.2 with
                  | none => rfl
                  | some q => simp) (l3, []) ⟨hB3, by simp⟩
            simp only [Nat.sub_zero] at b0
            simp only [hd2, Bool.false_eq_true, if_false, if_pos hg]
            rw [show ref15_Read.l2 (g : Int) FU (strOfNums l3) 0 (M.map mkR) [] = _ from b0]
            cases h4 : numsL g l3 with
            | none => rfl
            | some p =>
              obtain ⟨G, l4⟩ := p
              obtain ⟨_, _, hB4⟩ := numsL_inv g hB3 h4
              have hq : seq (strOfNums l4) (⟨#[]⟩ : ByteArray) = decide (l4 = []) := seq_str hB4 isB_nil
              simp only [Option.bind_some, List.nil_append, hq]
              by_cases h6 : l4 = []
              · simp only [h6, decide_true, Bool.not_true, Bool.false_eq_true, if_false, ref15_Valid_eq, Option.bind_some, qR_mkR, true_and]
                cases validQ M G <;> rfl
              · have : decide (l4 = []) = false := by simp [h6]
                simp only [this, Bool.not_false, if_true, Option.bind_some]
                have hcond : ¬ (l4 = [] ∧ validQ M G = true) := fun h => h6 h.1
                rw [if_neg hcond]
                rfl
          · have hd2 : decide ((g : Int) > 100) = true := by simp; omega
            simp only [hd2, if_true, if_neg hg]
            rfl
    · have hd : decide ((n : Int) > 400) = true := by simp; omega
      simp only [hd, if_true, if_neg hn]
      rfl
/-- what the parts hold together, unchecked -/
def accL : List (List Int) → List Int → Option (List Int)
  | [], acc => some acc
  | p :: r, acc => match getN p with
    | some (_, r1) => match getN r1 with
      | some (_, c) => accL r (acc ++ c)
      | none => none
    | none => none
theorem accL_isB : ∀ (L : List (List Int)) (acc w : List Int), (∀ l ∈ L, isB l) → isB acc → accL L acc = some w → isB w
  | [], acc, w, _, ha, h => by
    simp only [accL, Option.some.injEq] at h
    rw [← h]; exact ha
  | p :: r, acc, w, hB, ha, h => by
    simp only [accL] at h
    cases h1 : getN p with
    | none => rw [h1] at h; cases h
    | some q =>
      rw [h1] at h
      simp only at h
      have hB1 := isB_getN (n := q.1) (r := q.2) (hB p (by simp)) h1
      cases h2 : getN q.2 with
      | none => rw [h2] at h; cases h
      | some t =>
        rw [h2] at h
        simp only at h
        exact accL_isB r _ w (fun l hl => hB l (by simp [hl])) (isB_app ha (isB_getN (n := t.1) (r := t.2) hB1 h2)) h
theorem get2 {i N : Nat} (hi : i ≤ 1000000) (hN : N ≤ 1000000) (c : List Int) : getN (nm (i : Int) ++ nm (N : Int) ++ c) = some (i, nm (N : Int) ++ c) ∧ getN (nm (N : Int) ++ c) = some (N, c) := by
  have h1 : smallI (i : Int) := ⟨by omega, by omega⟩
  have h2 : smallI (N : Int) := ⟨by omega, by omega⟩
  refine ⟨?_, ?_⟩
  · rw [List.append_assoc, getN_nm h1]; simp
  · rw [getN_nm h2]; simp
theorem acc_PF {s N : Nat} (hs : 0 < s) (hN : N ≤ 100000) : ∀ (m i : Nat) (acc w : List Int), N = i + m → m = nparts s w.length → accL (PF s N i w m) acc = some (acc ++ w)
  | 0, i, acc, w, hm, hn => by
    have := nparts_end hs w.length
    rw [← hn] at this
    have : w = [] := List.length_eq_zero_iff.1 (by omega)
    subst this
    simp [PF, accL]
  | m + 1, i, acc, w, hm, hn => by
    rw [PF_succ]
    simp only [accL]
    obtain ⟨g1, g2⟩ := get2 (i := i) (N := N) (by omega) (by omega) (w.take s)
    rw [g1]
    simp only
    rw [g2]
    simp only
    have hpos : 0 < w.length := by
      have := (nparts_lt hs w.length 0).1 (by omega)
      omega
    have hst := nparts_step hs hpos
    rw [acc_PF hs hN m (i + 1) _ (w.drop s) (by omega) (by rw [List.length_drop]; omega), List.append_assoc, List.take_append_drop]
theorem ref15_Get_l0 (L : List (List Int)) (hB : ∀ l ∈ L, isB l) (hn : L.length ≤ 100000) (hs : ∀ l ∈ L, l.length ≤ 100000) :
    ref15_Get.l0 (L.map strOfNums) FU (⟨#[]⟩ : ByteArray) 0 = some (match accL L [] with | some w => .inr (strOfNums w) | none => .inl ([], [], false)) := by
  have hL := LIM_val
  have := loopNI L.length (by omega) (fun k i (s : List Int) => ref15_Get.l0 (L.map strOfNums) k (strOfNums s) i)
    (fun i s => some (match accL (L.drop i) s with | some w => .inr (strOfNums w) | none => .inl (([] : List Ref15Entry), ([] : List Int), false))) (fun i s => s.length ≤ i * 100000)
    (fun k s hI => by
      simp [ref15_Get.l0, accL])
    (fun k i hi hw s hI ih => by
      have hd : decide ((i : Int) < (L.length : Int)) = true := by simp; omega
      have hg : (0 ≤ (i : Int) ∧ (i : Int) < (L.length : Int)) := ⟨by omega, by omega⟩
      have hdr : L.drop i = L[i] :: L.drop (i + 1) := List.drop_eq_getElem_cons hi
      have hp : isB L[i] := hB _ (List.getElem_mem hi)
      simp only [decide_true, if_true, and_self, Option.bind_some, ref15_Get.l0, List.length_map, hd, hg, hw, gt_map strOfNums L i hi, ref04_GetNum_eq _ hp, hdr, accL]
      cases h1 : getN L[i] with
      | none => rw [getR_no h1]; rfl
      | some q =>
        obtain ⟨a, r1⟩ := q
        have hB1 := isB_getN hp h1
        rw [getR_ok h1]
        simp only [Bool.not_true, Bool.false_eq_true, if_false, ref04_GetNum_eq _ hB1, Option.bind_some]
        cases h2 : getN r1 with
        | none => rw [getR_no h2]; rfl
        | some t =>
          obtain ⟨b, c⟩ := t
          rw [getR_ok h2]
          have hc : c.length ≤ 100000 := by
            have e0 := hs _ (List.getElem_mem hi)
            have e1 := (getN_inv hp h1).1
            have e2 := (getN_inv hB1 h2).1
            have l1 := congrArg List.length e1
            have l2 := congrArg List.length e2
            rw [List.length_append] at l1 l2; omega
          simp only [Bool.not_true, Bool.false_eq_true, if_false, strOfNums_size]
          have hlim : s.length + c.length ≤ LIM := by
            have : (i + 1) * 100000 ≤ 100001 * 100000 := Nat.mul_le_mul_right _ (by omega)
            rw [Nat.add_mul] at this; omega
          rw [if_pos hlim, strOfNums_append]
          exact ih (s ++ c) (by rw [List.length_append, Nat.add_mul]; omega)) [] (by simp)
  simp only [List.drop_zero] at this
  exact this
open Classical in
/-- the loop over the rooms -/
theorem ref15_Get_l1 (M : List Ref15Entry) (G : List Int) (ps : List ByteArray) : ∀ (d : Nat) (i : Int) (k : Nat), i + d = 225 → 8 ≤ i → d < k →
    ref15_Get.l1 true M G ps k i = some (if ∃ room : Int, i ≤ room ∧ room ≤ 224 ∧ ps = putQ (M.map qR) G room then .inl (M, G, true) else .inr ())
  | 0, i, k, h, h8, hk => by
    obtain ⟨k, rfl⟩ : ∃ m, k = m + 1 := ⟨k - 1, by omega⟩
    have hd : decide (i ≤ 224) = false := by simp; omega
    rw [if_neg (by rintro ⟨room, h1, h2, _⟩; omega)]
    simp only [ref15_Get.l1, hd]
    rfl
  | d + 1, i, k, h, h8, hk => by
    obtain ⟨k, rfl⟩ : ∃ m, k = m + 1 := ⟨k - 1, by omega⟩
    have hd : decide (i ≤ 224) = true := by simp; omega
    have hw : wi64 (i + 1) = i + 1 := wi64_id (by omega)
    simp only [ref15_Get.l1, hd, if_true, Option.bind_some, ref15_Put_eq, hw]
    rw [ref15_texts_eq _ _ (by have := putQ_len (M.map qR) G i; omega)]
    simp only [Option.bind_some]
    by_cases he : putQ (M.map qR) G i = ps
    · have hex : ∃ room : Int, i ≤ room ∧ room ≤ 224 ∧ ps = putQ (M.map qR) G room := ⟨i, by omega, by omega, he.symm⟩
      rw [if_pos (by simpa using he), if_pos hex]
    · rw [if_neg (by simpa using he), ref15_Get_l1 M G ps d (i + 1) k (by omega) (by omega) (by omega)]
      congr 2
      apply propext
      constructor
      · rintro ⟨room, h1, h2, h3⟩; exact ⟨room, by omega, h2, h3⟩
      · rintro ⟨room, h1, h2, h3⟩
        refine ⟨room, ?_, h2, h3⟩
        rcases Int.lt_or_eq_of_le h1 with h4 | h4
        · omega
        · subst h4; exact absurd h3.symm he
def ReadsToR (ps : List ByteArray) (r : (List Ref15Entry) × (List Int) × Bool) : Prop :=
  (r.2.2 = true ∧ Says ps (r.1.map qR) r.2.1) ∨ (r = emptyR ∧ ∀ M G, ¬ Says ps M G)
theorem putQ_bad {M : List Q} {G : List Int} (h : ¬ validQ M G = true) (room : Int) : putQ M G room = [] := by
  unfold putQ
  simp [h]
theorem putQ_ne {M : List Q} {G : List Int} {room : Int} (hv : validQ M G = true) (h1 : 8 ≤ room) (h2 : room ≤ 224) : 1 ≤ (putQ M G room).length := by
  rw [putQ_ok hv h1 h2, List.length_map, PF_len]
  have := (nparts_lt (c := room.toNat - 6) (by omega) (bytesQ M G).length 0).2 (by have := bytesQ_ge M G; omega)
  omega
theorem ref15_Get_reads (L : List (List Int)) (hB : ∀ l ∈ L, isB l) (hn : L.length ≤ 100000) (hs : ∀ l ∈ L, l.length ≤ 100000) : ∃ r, ref15_Get (L.map strOfNums) = some r ∧ ReadsToR (L.map strOfNums) r := by
  unfold ref15_Get
  rw [ref15_Get_l0 L hB hn hs]
  have hF : FU = 4611686018427387904 := rfl
  by_cases hS : ∃ M G, Says (L.map strOfNums) M G
  · obtain ⟨M, G, hv, room, h1, h2, he⟩ := hS
    have he0 := he
    rw [putQ_ok hv h1 h2] at he
    obtain ⟨c, hc⟩ : ∃ c, c = room.toNat - 6 := ⟨_, rfl⟩
    obtain ⟨w, hw⟩ : ∃ w, w = bytesQ M G := ⟨_, rfl⟩
    have hwB : isB w := by rw [hw]; exact bytesQ_isB M G
    rw [← hc, ← hw] at he
    have hL := map_str hB (PF_isB _ _ _ _ _ hwB) he
    have hlen : L.length = nparts c w.length := by rw [hL, PF_len]
    have hc0 : 0 < c := by omega
    have e1 : accL L [] = some w := by
      have := acc_PF (N := L.length) hc0 hn L.length 0 [] w (by omega) hlen
      conv at this => lhs; rw [hlen, ← hL]
      simpa using this
    have e2 : readQ w = some (M, G) := by rw [hw]; exact readQ_mk hv
    rw [e1]
    simp only [Option.bind_some, ref15_Read_eq w hwB, e2]
    rw [ref15_Get_l1 (M.map mkR) G _ 217 8 FU (by decide) (by omega) (by omega), qR_mkR, if_pos ⟨room, h1, h2, he0⟩]
    exact ⟨_, rfl, .inl ⟨rfl, by rw [qR_mkR]; exact ⟨hv, room, h1, h2, he0⟩⟩⟩
  · have hno : ∀ M G, ¬ Says (L.map strOfNums) M G := fun M G h => hS ⟨M, G, h⟩
    cases e1 : accL L [] with
    | none => exact ⟨_, rfl, .inr ⟨rfl, hno⟩⟩
    | some w =>
      have hwB := accL_isB L [] w hB isB_nil e1
      simp only [Option.bind_some, ref15_Read_eq w hwB]
      cases e2 : readQ w with
      | none =>
        simp only [emptyR]
        have : ref15_Get.l1 false [] [] (L.map strOfNums) FU 8 = some (.inr ()) := by
          obtain ⟨m, hm, _⟩ := FU_succ 1 (by omega)
          rw [hm]
          rfl
        rw [this]
        exact ⟨_, rfl, .inr ⟨rfl, hno⟩⟩
      | some q =>
        obtain ⟨M, G⟩ := q
        obtain ⟨hv, hw⟩ := readQ_inv hwB e2
        simp only
        rw [ref15_Get_l1 (M.map mkR) G _ 217 8 FU (by decide) (by omega) (by omega), qR_mkR, if_neg (by
          rintro ⟨room, h1, h2, h3⟩
          exact hno M G ⟨hv, room, h1, h2, h3⟩)]
        exact ⟨_, rfl, .inr ⟨rfl, hno⟩⟩
end Go.Cen
