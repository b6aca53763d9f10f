/- ROOT: the parts read together. -/
import Derived.Test.YthdoklobbcedcabRootH
set_option linter.unusedVariables false
set_option linter.unusedSimpArgs false
namespace Go.Cen
def wholeL (N : Nat) : Nat → Nat → List Int → List (List Int) → Option (List Int × Nat)
  | _, s, acc, [] => some (acc, s)
  | i, s, acc, p :: r => match numsL 2 p with
    | some ([k, n], c) => if k = (i : Int) ∧ n = (N : Int) then
        if i = 0 then wholeL N (i + 1) c.length (acc ++ c) r
        else if c.length > s ∨ c.length = 0 ∨ (i < N - 1 ∧ c.length < s) then none else wholeL N (i + 1) s (acc ++ c) r
      else none
    | _ => none
theorem gt_map {α β : Type} [Inhabited β] (f : α → β) (L : List α) (i : Nat) (h : i < L.length) : gt (L.map f) (i : Int) = f L[i] := by
  rw [gt_nat _ i (by simpa using h)]; simp
theorem root_whole_eq (L : List (List Int)) (hB : ∀ l ∈ L, isB l) (hn : L.length ≤ 100000) (hs : ∀ l ∈ L, l.length ≤ 100000) :
    root_whole (L.map strOfNums) = some (match wholeL L.length 0 0 [] L with | some (w, s) => (strOfNums w, (s : Int), true) | none => ((⟨#[]⟩ : ByteArray), 0, false)) := by
  have hL := LIM_val
  unfold root_whole
  have := loopNI L.length (by omega) (fun k i (s : List Int × Nat) => root_whole.l0 (L.map strOfNums) k (strOfNums s.1) (s.2 : Int) i)
    (fun i s => some (match wholeL L.length i s.2 s.1 (L.drop i) with | some (w, s) => .inr (strOfNums w, (s : Int)) | none => .inl ((⟨#[]⟩ : ByteArray), 0, false))) (fun i s => s.1.length ≤ i * 100000)
    (fun k s hI => by
      simp [root_whole.l0, wholeL])
    (fun k i hi hw s hI ih => by
      have hd : decide ((i : Int) < (L.length : Int)) = true := by simp; omega
      have hg : (0 ≤ (i : Int) ∧ (i : Int) < (L.length : Int)) := ⟨by omega, by omega⟩
      have hdr : L.drop i = L[i] :: L.drop (i + 1) := List.drop_eq_getElem_cons hi
      have hp : isB L[i] := hB _ (List.getElem_mem hi)
      have h2 := root_numbers_eq 2 (by decide) L[i] hp
      simp only [decide_true, if_true, and_self, Option.bind_some, root_whole.l0, List.length_map, hd, hg, hw, gt_map strOfNums L i hi]
      rw [show root_numbers (strOfNums L[i]) 2 = _ from h2, hdr]
      simp only [wholeL]
      cases h5 : numsL 2 L[i] with
      | none => rfl
      | some p =>
        obtain ⟨xs, c⟩ := p
        obtain ⟨e1, e2, e3⟩ := numsL_inv 2 hp h5
        match xs, e2 with
        | [a, b], _ =>
          have g0 : gt [a, b] 0 = a := rfl
          have g1 : gt [a, b] 1 = b := rfl
          have hc : c.length ≤ 100000 := by
            have := hs _ (List.getElem_mem hi)
            rw [e1, List.length_append] at this; omega
          have q0 : (0 : Int) ≤ 0 ∧ (0 : Int) < (([a, b] : List Int).length : Int) := by simp
          have q1 : (0 : Int) ≤ 1 ∧ (1 : Int) < (([a, b] : List Int).length : Int) := by simp
          simp only [Option.bind_some, Bool.not_true, Bool.false_eq_true, if_false, g0, g1, if_pos q0, if_pos q1]
          by_cases ha : a = (i : Int)
          · by_cases hb : b = (L.length : Int)
            · have n1 : (a != (i : Int)) = false := by simp [ha]
              have n2 : (b != (L.length : Int)) = false := by simp [hb]
              simp only [n1, n2, Bool.false_eq_true, if_false, Option.bind_some, strOfNums_size]
              simp only [ha, hb, and_self, if_true]
              have hlim : s.1.length + c.length ≤ LIM := by
                have : (i + 1) * 100000 ≤ 100001 * 100000 := Nat.mul_le_mul_right _ (by omega)
                rw [Nat.add_mul] at this; omega
              have hlen : (s.1 ++ c).length ≤ (i + 1) * 100000 := by rw [List.length_append, Nat.add_mul]; omega
              by_cases hi0 : i = 0
              · have z : ((i : Int) == 0) = true := by simp; omega
                simp only [z, if_true, Option.bind_some]
                rw [if_pos hlim, if_pos hi0, strOfNums_append]
                exact ih (s.1 ++ c, c.length) hlen
              · have z : ((i : Int) == 0) = false := by simp; omega
                have hw1 : wi64 ((L.length : Int) - 1) = (L.length : Int) - 1 := wi64_id (by omega)
                simp only [z, Bool.false_eq_true, if_false, hi0, hw1]
                have := ih (s.1 ++ c, s.2) hlen
                simp only at this
                by_cases c1 : c.length > s.2
                · have d1 : decide ((c.length : Int) > (s.2 : Int)) = true := by simp; omega
                  simp only [d1, if_true, Option.bind_some, c1, true_or]
                · have d1 : decide ((c.length : Int) > (s.2 : Int)) = false := by simp; omega
                  by_cases c2 : c.length = 0
                  · have d2 : ((c.length : Int) == 0) = true := by simp; simpa using c2
                    simp only [d1, d2, Bool.false_eq_true, if_false, if_true, Option.bind_some]
                    rw [if_pos (.inr (.inl c2))]
                  · have d2 : ((c.length : Int) == 0) = false := by simp; simpa using c2
                    by_cases c3 : i < L.length - 1
                    · have d3 : decide ((i : Int) < (L.length : Int) - 1) = true := by simp; omega
                      by_cases c4 : c.length < s.2
                      · have d4 : decide ((c.length : Int) < (s.2 : Int)) = true := by simp; omega
                        simp only [d1, d2, d3, d4, Bool.false_eq_true, if_false, if_true, Option.bind_some]
                        rw [if_pos (.inr (.inr ⟨c3, c4⟩))]
                      · have d4 : decide ((c.length : Int) < (s.2 : Int)) = false := by simp; omega
                        simp only [d1, d2, d3, d4, Bool.false_eq_true, if_false, if_true, Option.bind_some]
                        rw [if_pos hlim, strOfNums_append, this, if_neg (by omega)]
                    · have d3 : decide ((i : Int) < (L.length : Int) - 1) = false := by simp; omega
                      simp only [d1, d2, d3, Bool.false_eq_true, if_false, if_true, Option.bind_some]
                      rw [if_pos hlim, strOfNums_append, this, if_neg (by omega)]
            · have n1 : (a != (i : Int)) = false := by simp [ha]
              have n2 : (b != (L.length : Int)) = true := by simp [hb]
              simp only [n1, n2, Bool.false_eq_true, if_false, Option.bind_some, if_true]
              rw [if_neg (fun h => hb h.2)]
          · have n1 : (a != (i : Int)) = true := by simp [ha]
            simp only [n1, if_true, Option.bind_some]
            rw [if_neg (fun h => ha h.1)]) ([], 0) (by simp)
  simp only [List.drop_zero] at this
  rw [show root_whole.l0 (L.map strOfNums) FU (⟨#[]⟩ : ByteArray) 0 0 = _ from this]
  cases wholeL L.length 0 0 [] L with
  | none => rfl
  | some q => rfl
theorem wholeL_isB (N : Nat) : ∀ (L : List (List Int)) (i s : Nat) (acc w : List Int) (s' : Nat), (∀ l ∈ L, isB l) → isB acc → wholeL N i s acc L = some (w, s') → isB w
  | [], i, s, acc, w, s', _, ha, h => by
    simp only [wholeL, Option.some.injEq, Prod.mk.injEq] at h
    rw [← h.1]; exact ha
  | p :: r, i, s, acc, w, s', hB, ha, h => by
    simp only [wholeL] at h
    split at h
    · rename_i k n c h5
      obtain ⟨_, _, e3⟩ := numsL_inv 2 (hB p (by simp)) h5
      have hr : ∀ l ∈ r, isB l := fun l hl => hB l (by simp [hl])
      split at h
      · split at h
        · exact wholeL_isB N r _ _ _ w s' hr (isB_app ha e3) h
        · split at h
          · cases h
          · exact wholeL_isB N r _ _ _ w s' hr (isB_app ha e3) h
      · cases h
    · cases h
def emptyE : (List RootEntry) × (List Int) × Bool := ([], [], false)
theorem root_Get_eq (L : List (List Int)) (hB : ∀ l ∈ L, isB l) (hn : L.length ≤ 100000) (hs : ∀ l ∈ L, l.length ≤ 100000) :
    root_Get (L.map strOfNums) = some (match wholeL L.length 0 0 [] L with
      | some (w, s) => if s ≤ 218 ∧ (L.length ≤ 1 ∨ 2 ≤ s) then match readQ w with
        | some (M, G) => (M.map mkM, G, true)
        | none => emptyE
        else emptyE
      | none => emptyE) := by
  unfold root_Get
  rw [root_whole_eq L hB hn hs]
  simp only [Option.bind_some, List.length_map, orS]
  cases hw : wholeL L.length 0 0 [] L with
  | none => rfl
  | some p =>
    obtain ⟨w, s⟩ := p
    have hBw := wholeL_isB _ _ _ _ _ _ _ hB isB_nil hw
    simp only [Bool.not_true, Bool.false_eq_true, if_false]
    by_cases h1 : s ≤ 218
    · have d1 : decide ((s : Int) > 218) = false := by simp; omega
      by_cases h2 : L.length ≤ 1 ∨ 2 ≤ s
      · have d2 : (if decide ((L.length : Int) > 1) = true then some (decide ((s : Int) < 2)) else some false) = some false := by
          by_cases h3 : L.length ≤ 1
          · have : decide ((L.length : Int) > 1) = false := by simp; omega
            simp [this]
          · have : decide ((s : Int) < 2) = false := by simp; omega
            rw [this]; simp
        have hcond : s ≤ 218 ∧ (L.length ≤ 1 ∨ 2 ≤ s) := ⟨h1, h2⟩
        rw [if_pos hcond]
        simp only [d1, d2, Bool.false_eq_true, if_false, Option.bind_some, counted_1_eq w hBw, readQ]
        cases e1 : getN w with
        | none => rfl
        | some p =>
          obtain ⟨m, r1⟩ := p
          simp only
          by_cases hm : m ≤ 400
          · simp only [if_pos hm]
            cases e2 : rowsL m r1 with
            | none => rfl
            | some p =>
              obtain ⟨M, r2⟩ := p
              have hB1 := isB_getN hBw e1
              obtain ⟨_, _, hB2⟩ := rowsL_inv m hB1 e2
              simp only [Bool.not_true, Bool.false_eq_true, if_false, counted_2_eq r2 hB2, Option.bind_some]
              cases e3 : getN r2 with
              | none => rfl
              | some p =>
                obtain ⟨g, r3⟩ := p
                simp only
                by_cases hg : g ≤ 100
                · simp only [if_pos hg]
                  cases e4 : numsL g r3 with
                  | none => rfl
                  | some p =>
                    obtain ⟨G, r4⟩ := p
                    obtain ⟨_, _, hB4⟩ := numsL_inv g (isB_getN hB2 e3) e4
                    have hq : seq (strOfNums r4) (⟨#[]⟩ : ByteArray) = decide (r4 = []) := seq_str hB4 isB_nil
                    simp only [hq, Bool.not_true, Bool.false_eq_true, if_false]
                    by_cases h4 : r4 = []
                    · simp only [h4, decide_true, Bool.not_true, Bool.false_eq_true, if_false, root_Valid_eq, Option.bind_some, qM_mkM, true_and]
                      cases validQ M G <;> rfl
                    · have : decide (r4 = []) = false := by simp [h4]
                      simp only [this, Bool.not_false, if_true, Option.bind_some]
                      have hcond : ¬ (r4 = [] ∧ validQ M G = true) := fun h => h4 h.1
                      rw [if_neg hcond]
                      rfl
                · simp only [if_neg hg]
                  rfl
          · simp only [if_neg hm]
            rfl
      · have d2 : (if decide ((L.length : Int) > 1) = true then some (decide ((s : Int) < 2)) else some false) = some true := by
          have h3 : decide ((L.length : Int) > 1) = true := by simp; omega
          have h4 : decide ((s : Int) < 2) = true := by simp; omega
          rw [h3, h4]; rfl
        have hcond : ¬ (s ≤ 218 ∧ (L.length ≤ 1 ∨ 2 ≤ s)) := fun h => h2 h.2
        rw [if_neg hcond]
        simp only [d1, d2, Bool.false_eq_true, if_false, Option.bind_some, if_true]
        rfl
    · have d1 : decide ((s : Int) > 218) = true := by simp; omega
      have hcond : ¬ (s ≤ 218 ∧ (L.length ≤ 1 ∨ 2 ≤ s)) := fun h => h1 h.1
      rw [if_neg hcond]
      simp only [d1, if_true, Option.bind_some]
      rfl
end Go.Cen
