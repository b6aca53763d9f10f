/- SHA: the six laws. -/
import Derived.Test.YthdoklobbcedcaaShaG
set_option linter.unusedVariables false
set_option linter.unusedSimpArgs false
set_option maxRecDepth 1000000
namespace Go.Cen
theorem law_ShaOf (a0 : ByteArray) (a1 : List Int) (h1 : a1.length = 32) (h2 : isB a1) : law02_ShaOf a0 a1 = some true := by
  unfold law02_ShaOf
  rw [works_true]
  simp only [Option.bind_some, Bool.not_true, Bool.false_eq_true, if_false, if_true]
  by_cases hs : (a0.size : Int) > 300
  · rw [if_pos (by simpa using hs)]
  · rw [if_neg (by simpa using hs)]
    have hz : a0.size ≤ 300 := by omega
    obtain ⟨d, d1, d2, _, _⟩ := of_both (a := a0) (by omega)
    obtain ⟨p1, p2⟩ := pad_both (a := a0) (by omega)
    obtain ⟨t1, t2⟩ := text_both h1 h2
    obtain ⟨e, l1, l2, _, _, _⟩ := link_both h1 (a := a0) (by omega)
    have q : ∀ s : ByteArray, seq s s = true := fun s => (seq_iff s s).2 rfl
    have qa : ∀ s : List Int, eqA s s = true := fun s => (eqA_iff s s).2 rfl
    simp only [d1, d2, p1, p2, t1, t2, l1, l2, Option.bind_some, q, qa, if_true]
theorem be8_inj {n m : Nat} (hn : n ≤ 1000000) (hm : m ≤ 1000000) (h : be8 (8 * n) = be8 (8 * m)) : n = m := by
  simp only [be8, List.cons.injEq] at h
  obtain ⟨_, _, _, _, h4, h5, h6, h7, _⟩ := h
  omega
theorem padL_inj {xs ys : List Int} (hx : xs.length ≤ 1000000) (hy : ys.length ≤ 1000000) (h : padL xs = padL ys) : xs = ys := by
  have l1 := padL_length xs
  have l2 := padL_length ys
  have hl := congrArg List.length h
  unfold padL at h
  have e := List.append_inj' h (by simp [be8])
  have hn := be8_inj hx hy e.2
  have e2 := List.append_inj e.1 (by simp [hn])
  have e3 := List.append_inj e2.1 hn
  exact e3.1
theorem padL_take (xs : List Int) : (padL xs).take xs.length = xs := by simp [padL, List.take_append]
theorem gt_append_right {xs ys : List Int} {j : Int} (h0 : 0 ≤ j) (h : (xs.length : Int) ≤ j) : gt (xs ++ ys) j = gt ys (j - xs.length) := by
  simp only [gt, List.getD_eq_getElem?_getD]
  rw [List.getElem?_append_right (by omega), show j.toNat - xs.length = (j - xs.length).toNat by omega]
theorem gt_append_left {xs ys : List Int} {j : Int} (h0 : 0 ≤ j) (h : j < xs.length) : gt (xs ++ ys) j = gt xs j := by
  simp only [gt, List.getD_eq_getElem?_getD]
  rw [List.getElem?_append_left (by omega)]
theorem padL_128 (xs : List Int) : gt (padL xs) xs.length = 128 := by
  unfold padL
  rw [List.append_assoc, List.append_assoc, gt_append_right (by omega) (by omega)]
  simp [gt]
theorem padL_zero (xs : List Int) {j : Int} (h0 : (xs.length : Int) < j) (h1 : j < (padL xs).length - 8) : gt (padL xs) j = 0 := by
  have hl := padL_length xs
  unfold padL
  rw [List.append_assoc, gt_append_right (by omega) (by simp; omega), gt_append_left (by simp; omega) (by simp; omega)]
  exact gt_all (p := fun x => x = 0) (fun x hx => List.eq_of_mem_replicate hx) rfl _
theorem padL_end (xs : List Int) (i : Int) (h0 : 0 ≤ i) (h1 : i < 8) : gt (padL xs) ((padL xs).length - 8 + i) = gt (be8 (8 * xs.length)) i := by
  have hl := padL_length xs
  rw [hl]
  unfold padL
  rw [gt_append_right (by omega) (by simp; omega)]
  congr 1
  simp; omega
theorem law_ShaPads (a0 a1 : ByteArray) : law02_ShaPads a0 a1 = some true := by
  unfold law02_ShaPads
  rw [works_true]
  simp only [Option.bind_some, Bool.not_true, Bool.false_eq_true, if_false, if_true]
  by_cases hs : (a0.size : Int) > 2000
  · rw [if_pos (by simpa using hs)]; simp
  · rw [if_neg (by simpa using hs)]
    by_cases hs' : (a1.size : Int) > 2000
    · simp only [Option.bind_some, decide_eq_true hs', if_true]
    · simp only [Option.bind_some, decide_eq_false hs', if_false, Bool.false_eq_true]
      have hz : a0.size ≤ 2000 := by omega
      have hz' : a1.size ≤ 2000 := by omega
      obtain ⟨p1, _⟩ := pad_both (a := a0) (by omega)
      obtain ⟨p2, _⟩ := pad_both (a := a1) (by omega)
      have hB := padL_isB (byts_isB a0)
      have hB' := padL_isB (byts_isB a1)
      have hb := byts_length a0
      have hb' := byts_length a1
      have hl := padL_length (byts a0)
      have hm := padL_mod (byts a0)
      have hzz := (padN_facts (byts a0).length).1
      have hsz : (strOfNums (padL (byts a0))).size = (padL (byts a0)).length := strOfNums_size _
      simp only [p1, p2, Option.bind_some, if_true]
      rw [if_pos (by rw [hsz, Int.tmod_eq_emod_of_nonneg (by omega)]; simp only [beq_iff_eq]; omega)]
      rw [if_pos (decide_eq_true (by rw [hsz, wi64_id (by omega)]; omega))]
      rw [if_pos (decide_eq_true (by rw [hsz, wi64_id (by omega)]; omega))]
      have g : (0 : Int) ≤ 0 ∧ (0 : Int) ≤ (a0.size : Int) ∧ (a0.size : Int) ≤ ((strOfNums (padL (byts a0))).size : Int) := by rw [hsz]; omega
      rw [if_pos g]
      have e1 : seq (sx (strOfNums (padL (byts a0))) 0 (a0.size : Int)) a0 = true := by
        rw [seq_iff]
        apply byts_inj
        rw [sx_byts _ g, byts_strOfNums hB]
        have := padL_take (byts a0)
        rw [hb] at this
        simpa [sub] using this
      rw [if_pos e1, if_pos (by rw [hsz]; omega)]
      have e2 : bt (strOfNums (padL (byts a0))) (a0.size : Int) = 128 := by
        rw [bt_eq, byts_strOfNums hB, ← hb, padL_128]
      rw [e2]
      simp only [beq_self_eq_true, if_true]
      have e3 : seq (strOfNums (padL (byts a0))) (strOfNums (padL (byts a1))) = seq a0 a1 := by
        rw [seq_byts, seq_byts, byts_strOfNums hB, byts_strOfNums hB']
        congr 1
        apply propext
        constructor
        · intro h; exact padL_inj (by omega) (by omega) h
        · intro h; rw [h]
      rw [e3]
      simp
theorem law_ShaSame (a0 a1 : ByteArray) : law02_ShaSame a0 a1 = some true := by
  unfold law02_ShaSame
  rw [works_true]
  simp only [Option.bind_some, Bool.not_true, Bool.false_eq_true, if_false, if_true]
  by_cases hs : (a0.size : Int) > 300
  · rw [if_pos (by simpa using hs)]; simp
  · rw [if_neg (by simpa using hs)]
    by_cases hs' : (a1.size : Int) > 300
    · simp only [Option.bind_some, decide_eq_true hs', if_true]
    · simp only [Option.bind_some, decide_eq_false hs', if_false, Bool.false_eq_true]
      obtain ⟨x, x1, _, _, _⟩ := of_both (a := a0) (by omega)
      obtain ⟨y, y1, _, _, _⟩ := of_both (a := a1) (by omega)
      have hc : seq a1 a0 = seq a0 a1 := by rw [Bool.eq_iff_iff, seq_iff, seq_iff]; exact eq_comm
      have he : eqA y x = eqA x y := by rw [Bool.eq_iff_iff, eqA_iff, eqA_iff]; exact eq_comm
      simp only [x1, y1, Option.bind_some, if_true, same_eq x1 y1, same_eq y1 x1, hc, he]
      cases seq a0 a1 <;> simp
theorem digit_chk {c : Int} (h : isHex c) : (if (decide (c ≥ 48)) = true then (if (decide (c ≤ 57)) = true then some false else (if (decide (c ≥ 97)) = true then some (!(decide (c ≤ 102))) else some true)) else (if (decide (c ≥ 97)) = true then some (!(decide (c ≤ 102))) else some true)) = some false := by
  rcases h with ⟨h1, h2⟩ | ⟨h1, h2⟩
  · rw [if_pos (decide_eq_true h1), if_pos (decide_eq_true h2)]
  · rw [if_pos (decide_eq_true (by omega)), if_neg (by simp; omega), if_pos (decide_eq_true h1), decide_eq_true h2]; rfl
theorem text_chk {s : ByteArray} (hs : ∀ c ∈ byts s, isHex c) (hz : s.size ≤ 1000) : ∀ (n : Nat) (i : Int) (k : Nat), i = s.size - n → n ≤ s.size → n < k → law02_ShaText.l0 s k i = some (.inr ()) := by
  intro n
  induction n with
  | zero =>
    intro i k hi _ hk
    obtain ⟨k, rfl⟩ : ∃ m, k = m + 1 := ⟨k - 1, by omega⟩
    have : decide (i < (s.size : Int)) = false := decide_eq_false (by omega)
    simp [law02_ShaText.l0, this]
  | succ n ih =>
    intro i k hi hn hk
    obtain ⟨k, rfl⟩ : ∃ m, k = m + 1 := ⟨k - 1, by omega⟩
    have hlt : decide (i < (s.size : Int)) = true := decide_eq_true (by omega)
    have gi : 0 ≤ i ∧ i < (s.size : Int) := ⟨by omega, by omega⟩
    have e1 : wi64 (i + 1) = i + 1 := wi64_id (by omega)
    have hx : isHex (bt s i) := by
      obtain ⟨hl, e⟩ := gt_lt (byts s) gi.1 (by rw [byts_length]; omega)
      rw [bt_eq, e]
      exact hs _ (List.getElem_mem _)
    simp only [law02_ShaText.l0, hlt, if_true, gi, and_self, digit_chk hx, Option.bind_some, Bool.false_eq_true, if_false, e1]
    exact ih (i + 1) k (by omega) (by omega) (by omega)
theorem law_ShaText (a0 a1 : List Int) (h1 : a0.length = 32) (h2 : isB a0) (h3 : a1.length = 32) (h4 : isB a1) : law02_ShaText a0 a1 = some true := by
  unfold law02_ShaText
  obtain ⟨t1, _⟩ := text_both h1 h2
  obtain ⟨t2, _⟩ := text_both h3 h4
  have z1 : (strOfNums (textL a0)).size = 64 := by rw [strOfNums_size, textL_length, h1]
  have z2 : (strOfNums (textL a1)).size = 64 := by rw [strOfNums_size, textL_length, h3]
  have hc := text_chk (s := strOfNums (textL a0)) (by rw [byts_strOfNums (textL_isB h2)]; exact textL_hex h2) (by omega) 64 0 FU (by omega) (by omega) (by simp [FU])
  rw [works_true]
  simp only [Option.bind_some, Bool.not_true, Bool.false_eq_true, if_false, if_true, t1, t2, hc, z1, z2]
  have e3 : seq (strOfNums (textL a0)) (strOfNums (textL a1)) = eqA a0 a1 := by
    rw [seq_byts, byts_strOfNums (textL_isB h2), byts_strOfNums (textL_isB h4)]
    cases h : eqA a0 a1 with
    | true => rw [(eqA_iff a0 a1).1 h]; simp
    | false =>
      simp only [decide_eq_false_iff_not]
      intro e
      rw [(eqA_iff a0 a1).2 (textL_inj h2 h4 e)] at h
      cases h
  rw [e3]
  simp
theorem ends_l1 {s : ByteArray} (hz : s.size ≤ 1000000) : ∀ (n : Nat) (i : Int) (k : Nat), 0 ≤ i → i = (s.size : Int) - 8 - n → n < k → (∀ j, i ≤ j → j < (s.size : Int) - 8 → bt s j = 0) → law02_ShaPadEnds.l1 s k i = some (.inr ()) := by
  intro n
  induction n with
  | zero =>
    intro i k h0 hi hk _
    obtain ⟨k, rfl⟩ : ∃ m, k = m + 1 := ⟨k - 1, by omega⟩
    have e : wi64 ((s.size : Int) - 8) = (s.size : Int) - 8 := wi64_id (by omega)
    have : decide (i < (s.size : Int) - 8) = false := decide_eq_false (by omega)
    simp [law02_ShaPadEnds.l1, e, this]
  | succ n ih =>
    intro i k h0 hi hk hb
    obtain ⟨k, rfl⟩ : ∃ m, k = m + 1 := ⟨k - 1, by omega⟩
    have e : wi64 ((s.size : Int) - 8) = (s.size : Int) - 8 := wi64_id (by omega)
    have hlt : decide (i < (s.size : Int) - 8) = true := decide_eq_true (by omega)
    have gi : 0 ≤ i ∧ i < (s.size : Int) := ⟨by omega, by omega⟩
    have e1 : wi64 (i + 1) = i + 1 := wi64_id (by omega)
    have hx : (bt s i != 0) = false := by rw [hb i (Int.le_refl _) (by omega)]; rfl
    simp only [law02_ShaPadEnds.l1, e, hlt, if_true, gi, and_self, hx, Bool.false_eq_true, if_false, e1]
    exact ih (i + 1) k (by omega) (by omega) (by omega) (fun j hj h => hb j (by omega) h)
theorem ends_l0 {s : ByteArray} {n : Nat} (hn : n ≤ 2000) (h8 : 8 ≤ s.size) (hz : s.size ≤ 1000000) (he : ∀ i : Int, 0 ≤ i → i < 8 → bt s ((s.size : Int) - 8 + i) = gt (be8 (8 * n)) i) : law02_ShaPadEnds.l0 s FU 0 ((s.size : Int) - 8) = some ((8 * n : Nat) : Int) := by
  obtain ⟨m, hF, _⟩ := FU_succ 9 (by omega)
  rw [hF]
  have step : ∀ (v : Int) (i : Int) (k : Nat), 0 ≤ v → v ≤ 16000 → 0 ≤ i → i < 8 → law02_ShaPadEnds.l0 s (k + 1) v ((s.size : Int) - 8 + i) = law02_ShaPadEnds.l0 s k (v * 256 + gt (be8 (8 * n)) i) ((s.size : Int) - 8 + (i + 1)) := by
    intro v i k hv0 hv h0 h8'
    have d : decide ((s.size : Int) - 8 + i < (s.size : Int)) = true := decide_eq_true (by omega)
    have g : 0 ≤ (s.size : Int) - 8 + i ∧ (s.size : Int) - 8 + i < (s.size : Int) := ⟨by omega, by omega⟩
    have hb := isB_gt (be8_isB (8 * n)) i
    obtain ⟨b0, b1⟩ := hb
    have e1 : wi64 ((s.size : Int) - 8 + i + 1) = (s.size : Int) - 8 + (i + 1) := by rw [wi64_id (by omega)]; omega
    have e2 : wi64 (wi64 (v * 256) + wi64 (gt (be8 (8 * n)) i)) = v * 256 + gt (be8 (8 * n)) i := by rw [wi64_id (x := v * 256) (by omega), wi64_id (x := gt (be8 (8 * n)) i) (by omega), wi64_id (by omega)]
    simp only [law02_ShaPadEnds.l0, d, if_true, g, and_self, he i h0 h8', e1, e2, decide_true]
  have g0 : gt (be8 (8 * n)) 0 = 0 := by simp [be8, gt]; omega
  have g1 : gt (be8 (8 * n)) 1 = 0 := by simp [be8, gt]; omega
  have g2 : gt (be8 (8 * n)) 2 = 0 := by simp [be8, gt]; omega
  have g3 : gt (be8 (8 * n)) 3 = 0 := by simp [be8, gt]; omega
  have g4 : gt (be8 (8 * n)) 4 = 0 := by simp [be8, gt]; omega
  have g5 : gt (be8 (8 * n)) 5 = 0 := by simp [be8, gt]; omega
  have g6 : gt (be8 (8 * n)) 6 = ((8 * n / 256 : Nat) : Int) := by
    have : gt (be8 (8 * n)) 6 = ((8 * n / 2 ^ 8 % 256 : Nat) : Int) := rfl
    rw [this]; omega
  have g7 : gt (be8 (8 * n)) 7 = ((8 * n % 256 : Nat) : Int) := rfl
  have s0 := step 0 0 (m + 8) (by omega) (by omega) (by omega) (by omega)
  have s1 := step 0 1 (m + 7) (by omega) (by omega) (by omega) (by omega)
  have s2 := step 0 2 (m + 6) (by omega) (by omega) (by omega) (by omega)
  have s3 := step 0 3 (m + 5) (by omega) (by omega) (by omega) (by omega)
  have s4 := step 0 4 (m + 4) (by omega) (by omega) (by omega) (by omega)
  have s5 := step 0 5 (m + 3) (by omega) (by omega) (by omega) (by omega)
  have s6 := step 0 6 (m + 2) (by omega) (by omega) (by omega) (by omega)
  have s7 := step ((8 * n / 256 : Nat) : Int) 7 (m + 1) (by omega) (by omega) (by omega) (by omega)
  simp only [g0, g1, g2, g3, g4, g5, g6, g7, Int.zero_mul, Int.zero_add, Int.reduceAdd, Int.add_zero] at s0 s1 s2 s3 s4 s5 s6 s7
  rw [s0, s1, s2, s3, s4, s5, s6, s7]
  have d : decide ((s.size : Int) - 8 + 8 < (s.size : Int)) = false := decide_eq_false (by omega)
  simp only [law02_ShaPadEnds.l0, d, Bool.false_eq_true, if_false]
  congr 1
  omega
theorem law_ShaPadEnds (a0 : ByteArray) : law02_ShaPadEnds a0 = some true := by
  unfold law02_ShaPadEnds
  rw [works_true]
  simp only [Option.bind_some, Bool.not_true, Bool.false_eq_true, if_false, if_true]
  by_cases hs : (a0.size : Int) > 2000
  · rw [if_pos (by simpa using hs)]
  · rw [if_neg (by simpa using hs)]
    obtain ⟨p1, _⟩ := pad_both (a := a0) (by omega)
    have hB := padL_isB (byts_isB a0)
    have hb := byts_length a0
    have hl := padL_length (byts a0)
    have hzz := (padN_facts (byts a0).length).1
    have hsz : (strOfNums (padL (byts a0))).size = (padL (byts a0)).length := strOfNums_size _
    have w1 : wi64 ((a0.size : Int) + 9) = (a0.size : Int) + 9 := wi64_id (by omega)
    have w2 : wi64 (((strOfNums (padL (byts a0))).size : Int) - 8) = ((strOfNums (padL (byts a0))).size : Int) - 8 := wi64_id (by rw [hsz]; omega)
    have w3 : wi64 ((a0.size : Int) + 1) = (a0.size : Int) + 1 := wi64_id (by omega)
    have w4 : wi64 (8 * (a0.size : Int)) = ((8 * a0.size : Nat) : Int) := by rw [wi64_id (by omega)]; omega
    have h0 := ends_l0 (s := strOfNums (padL (byts a0))) (n := a0.size) (by omega) (by rw [hsz]; omega) (by rw [hsz]; omega) (fun i i0 i1 => by
      rw [bt_eq, byts_strOfNums hB, hsz, padL_end _ _ i0 i1, hb])
    have h1 := ends_l1 (s := strOfNums (padL (byts a0))) (by rw [hsz]; omega) (zerosN (byts a0).length) ((a0.size : Int) + 1) FU (by omega) (by rw [hsz]; omega) (by simp [FU]; omega) (fun j j0 j1 => by
      rw [bt_eq, byts_strOfNums hB]
      exact padL_zero _ (by omega) (by rw [hsz] at j1; omega))
    simp only [p1, Option.bind_some, w1, w2, w3, w4]
    rw [if_neg (by simp; rw [hsz]; omega), h0]
    simp only [Option.bind_some]
    rw [h1]
    simp only [beq_self_eq_true, if_true]
    rw [if_pos (by rw [hsz]; omega)]
    have e2 : bt (strOfNums (padL (byts a0))) (a0.size : Int) = 128 := by rw [bt_eq, byts_strOfNums hB, ← hb, padL_128]
    rw [e2]; rfl
theorem links_l0 {d : List Int} (hd : d.length = 32) (hB : isB d) : ∀ (n : Nat) (i : Int) (k : Nat) (acc : ByteArray), i = 32 - n → n ≤ 32 → n < k → acc.size ≤ 32 - n → ∃ s, law02_ShaLinks.l0 d k acc i = some s ∧ byts s = byts acc ++ d.drop i.toNat := by
  intro n
  induction n with
  | zero =>
    intro i k acc hi _ hk _
    obtain ⟨k, rfl⟩ : ∃ m, k = m + 1 := ⟨k - 1, by omega⟩
    have : decide (i < 32) = false := decide_eq_false (by omega)
    have e : d.drop i.toNat = [] := List.drop_of_length_le (by omega)
    exact ⟨acc, by simp [law02_ShaLinks.l0, this], by simp [e]⟩
  | succ n ih =>
    intro i k acc hi hn hk hl
    obtain ⟨k, rfl⟩ : ∃ m, k = m + 1 := ⟨k - 1, by omega⟩
    have hlt : decide (i < 32) = true := decide_eq_true (by omega)
    have e1 : wi64 (i + 1) = i + 1 := wi64_id (by omega)
    have gi : 0 ≤ i ∧ i < 32 := ⟨by omega, by omega⟩
    have z : (strOfNums [gt d i]).size = 1 := by rw [strOfNums_size]; rfl
    have gl : acc.size + (strOfNums ([gt d i] : List Int)).size ≤ LIM := by rw [z]; simp [LIM]; omega
    obtain ⟨s, h1, h2⟩ := ih (i + 1) k (acc ++ strOfNums [gt d i]) (by omega) (by omega) (by omega) (by rw [ByteArray.size_append, z]; omega)
    refine ⟨s, ?_, ?_⟩
    · simp only [law02_ShaLinks.l0, hlt, if_true, gi, and_self, e1, gl]
      exact h1
    · have hg := isB_gt hB i
      rw [h2, byts_append, byts_strOfNums (fun x hx => by simp at hx; subst hx; exact hg), drop_gt d gi.1 (by omega)]
      simp
theorem law_ShaLinks (a0 : List Int) (a1 a2 : ByteArray) (h1 : a0.length = 32) (h2 : isB a0) : law02_ShaLinks a0 a1 a2 = some true := by
  unfold law02_ShaLinks
  rw [works_true]
  simp only [Option.bind_some, Bool.not_true, Bool.false_eq_true, if_false, if_true]
  by_cases hs : (a1.size : Int) > 300
  · rw [if_pos (by simpa using hs)]; simp
  · rw [if_neg (by simpa using hs)]
    by_cases hs' : (a2.size : Int) > 300
    · simp only [Option.bind_some, decide_eq_true hs', if_true]
    · simp only [Option.bind_some, decide_eq_false hs', if_false, Bool.false_eq_true]
      obtain ⟨s, s1, s2⟩ := links_l0 h1 h2 32 0 FU (⟨#[]⟩ : ByteArray) (by omega) (by omega) (by simp [FU]) (by simp [ByteArray.size])
      have hs0 : s = strOfNums a0 := by
        apply byts_inj
        rw [s2, byts_strOfNums h2]; simp [byts_nil]
      obtain ⟨e, l1, _, l3, _, _⟩ := link_both h1 (a := a1 ++ a2) (by rw [ByteArray.size_append]; omega)
      have z : (strOfNums a0).size = 32 := by rw [strOfNums_size, h1]
      have ea : strOfNums a0 ++ a1 ++ a2 = strOfNums a0 ++ (a1 ++ a2) := ByteArray.append_assoc
      simp only [s1, hs0, Option.bind_some, if_true]
      rw [if_pos (by simp [LIM]; omega), l1]
      simp only [Option.bind_some]
      rw [if_pos (by rw [z]; simp [LIM]; omega), if_pos (by rw [ByteArray.size_append, z]; simp [LIM]; omega), ea, l3]
      simp [eqA]
end Go.Cen
