/- ROOT: what is read out of the bytes. -/
import Derived.Test.YthdoklobbcedcabRootG
set_option linter.unusedVariables false
set_option linter.unusedSimpArgs false
namespace Go.Cen
def numsL : Nat → List Int → Option (List Int × List Int)
  | 0, l => some ([], l)
  | n + 1, l => match getN l with
    | some (a, r) => match numsL n r with
      | some (xs, r') => some ((a : Int) :: xs, r')
      | none => none
    | none => none
def rowsL : Nat → List Int → Option (List Q × List Int)
  | 0, l => some ([], l)
  | n + 1, l => match numsL 4 l with
    | some ([a, b, c, d], r) => match rowsL n r with
      | some (xs, r') => some (⟨a, b, c, d⟩ :: xs, r')
      | none => none
    | _ => none
def readQ (l : List Int) : Option (List Q × List Int) := match getN l with
  | some (m, r1) => if m ≤ 400 then match rowsL m r1 with
    | some (M, r2) => match getN r2 with
      | some (g, r3) => if g ≤ 100 then match numsL g r3 with
        | some (G, r4) => if r4 = [] ∧ validQ M G = true then some (M, G) else none
        | none => none
        else none
      | none => none
    | none => none
    else none
  | none => none
theorem isB_getN {l : List Int} {n : Nat} {r : List Int} (hl : isB l) (h : getN l = some (n, r)) : isB r := by
  have := (getN_inv hl h).1
  intro x hx
  exact hl x (by rw [this]; simp [hx])
theorem nm_nat {n : Nat} (h : n ≤ 1125899906842624) : nm (n : Int) = numL n := by
  have := clampN_id (a := (n : Int)) (by omega) (by omega)
  have e : clampN (n : Int) = n := by omega
  rw [nm, e]
theorem numsL_inv : ∀ (n : Nat) {l xs r : List Int}, isB l → numsL n l = some (xs, r) → l = xs.flatMap nm ++ r ∧ xs.length = n ∧ isB r
  | 0, l, xs, r, hl, h => by
    simp only [numsL, Option.some.injEq, Prod.mk.injEq] at h
    obtain ⟨rfl, rfl⟩ := h
    exact ⟨rfl, rfl, hl⟩
  | n + 1, l, xs, r, hl, h => by
    simp only [numsL] at h
    cases h1 : getN l with
    | none => rw [h1] at h; cases h
    | some p =>
      obtain ⟨a, r1⟩ := p
      rw [h1] at h
      simp only at h
      cases h2 : numsL n r1 with
      | none => rw [h2] at h; cases h
      | some q =>
        obtain ⟨ys, r2⟩ := q
        rw [h2] at h
        simp only [Option.some.injEq, Prod.mk.injEq] at h
        obtain ⟨rfl, rfl⟩ := h
        obtain ⟨e1, e2⟩ := getN_inv hl h1
        obtain ⟨e3, e4, e5⟩ := numsL_inv n (isB_getN hl h1) h2
        refine ⟨?_, by simp [e4], e5⟩
        rw [e1, List.flatMap_cons, nm_nat e2, List.append_assoc, ← e3]
def smallI (x : Int) : Prop := 0 ≤ x ∧ x ≤ 1125899906842624
theorem getN_nm {x : Int} (h : smallI x) (r : List Int) : getN (nm x ++ r) = some (x.toNat, r) := by
  have := clampN_id h.1 h.2
  have e : clampN x = x.toNat := by omega
  rw [nm, e]
  exact getN_numL _ _ (by have := h.2; omega)
theorem numsL_mk : ∀ {xs : List Int} {r : List Int}, (∀ x ∈ xs, smallI x) → numsL xs.length (xs.flatMap nm ++ r) = some (xs, r)
  | [], r, _ => rfl
  | x :: xs, r, h => by
    have h1 := h x (by simp)
    rw [List.length_cons, numsL, List.flatMap_cons, List.append_assoc, getN_nm h1]
    simp only
    rw [numsL_mk (fun y hy => h y (by simp [hy]))]
    simp only
    have := h1.1
    rw [Int.toNat_of_nonneg this]
theorem rowB_flat (q : Q) : rowB q = [q.l, q.o, q.b, q.t].flatMap nm := by simp [rowB]
theorem rowsL_inv : ∀ (n : Nat) {l : List Int} {xs : List Q} {r : List Int}, isB l → rowsL n l = some (xs, r) → l = xs.flatMap rowB ++ r ∧ xs.length = n ∧ isB r
  | 0, l, xs, r, hl, h => by
    simp only [rowsL, Option.some.injEq, Prod.mk.injEq] at h
    obtain ⟨rfl, rfl⟩ := h
    exact ⟨rfl, rfl, hl⟩
  | n + 1, l, xs, r, hl, h => by
    simp only [rowsL] at h
    split at h
    · rename_i a b c d r1 h1
      obtain ⟨e1, e2, e3⟩ := numsL_inv 4 hl h1
      cases h2 : rowsL n r1 with
      | none => rw [h2] at h; cases h
      | some q =>
        obtain ⟨ys, r2⟩ := q
        rw [h2] at h
        simp only [Option.some.injEq, Prod.mk.injEq] at h
        obtain ⟨rfl, rfl⟩ := h
        obtain ⟨e3, e4, e5⟩ := rowsL_inv n e3 h2
        refine ⟨?_, by simp [e4], e5⟩
        rw [e1, show List.flatMap rowB (⟨a, b, c, d⟩ :: ys) = [a, b, c, d].flatMap nm ++ ys.flatMap rowB from by rw [List.flatMap_cons, rowB_flat], List.append_assoc, ← e3]
    · cases h
def smallQ (q : Q) : Prop := smallI q.l ∧ smallI q.o ∧ smallI q.b ∧ smallI q.t
theorem rowsL_mk : ∀ {xs : List Q} {r : List Int}, (∀ x ∈ xs, smallQ x) → rowsL xs.length (xs.flatMap rowB ++ r) = some (xs, r)
  | [], r, _ => rfl
  | x :: xs, r, h => by
    have h1 := h x (by simp)
    rw [List.length_cons, rowsL, List.flatMap_cons, List.append_assoc, rowB_flat]
    have := numsL_mk (xs := [x.l, x.o, x.b, x.t]) (r := xs.flatMap rowB ++ r) (by
      intro y hy
      simp only [List.mem_cons, List.not_mem_nil, or_false] at hy
      obtain ⟨a1, a2, a3, a4⟩ := h1
      rcases hy with rfl | rfl | rfl | rfl <;> assumption)
    rw [show numsL 4 _ = _ from this]
    simp only
    rw [rowsL_mk (fun y hy => h y (by simp [hy]))]
theorem within_small {a m : Int} (hm : m ≤ 1125899906842624) (h : within a m = true) : smallI a := by
  simp only [within, Bool.and_eq_true, decide_eq_true_eq] at h
  exact ⟨h.1, by omega⟩
theorem valid_small {M : List Q} {G : List Int} (h : validQ M G = true) : (∀ q ∈ M, smallQ q) ∧ ∀ g ∈ G, smallI g := by
  simp only [validQ, Bool.and_eq_true, List.all_eq_true] at h
  refine ⟨fun q hq => ?_, fun g hg => within_small (by decide) (h.1.1.2 g hg)⟩
  have := h.1.1.1.2 q hq
  simp only [okQ, Bool.and_eq_true] at this
  exact ⟨within_small (by decide) this.1.1.1, within_small (by decide) this.1.1.2, within_small (by decide) this.1.2, within_small (by decide) this.2⟩
theorem readQ_mk {M : List Q} {G : List Int} (h : validQ M G = true) : readQ (bytesQ M G) = some (M, G) := by
  have hl := valid_len h
  obtain ⟨hM, hG⟩ := valid_small h
  have e : bytesQ M G = nm (M.length : Int) ++ (M.flatMap rowB ++ (nm (G.length : Int) ++ (G.flatMap nm ++ []))) := by simp [bytesQ]
  have hm : smallI (M.length : Int) := ⟨by omega, by omega⟩
  have hg : smallI (G.length : Int) := ⟨by omega, by omega⟩
  unfold readQ
  rw [e, getN_nm hm]
  simp only [Int.toNat_natCast]
  rw [if_pos hl.1, rowsL_mk hM]
  simp only
  rw [getN_nm hg]
  simp only [Int.toNat_natCast]
  rw [if_pos hl.2, numsL_mk hG]
  simp [h]
theorem readQ_inv {l : List Int} {M : List Q} {G : List Int} (hl : isB l) (h : readQ l = some (M, G)) : validQ M G = true ∧ l = bytesQ M G := by
  unfold readQ at h
  cases h1 : getN l with
  | none => rw [h1] at h; cases h
  | some p =>
    obtain ⟨m, r1⟩ := p
    rw [h1] at h
    simp only at h
    split at h
    · rename_i hm
      cases h2 : rowsL m r1 with
      | none => rw [h2] at h; cases h
      | some p =>
        obtain ⟨M', r2⟩ := p
        rw [h2] at h
        simp only at h
        cases h3 : getN r2 with
        | none => rw [h3] at h; cases h
        | some p =>
          obtain ⟨g, r3⟩ := p
          rw [h3] at h
          simp only at h
          split at h
          · rename_i hg
            cases h4 : numsL g r3 with
            | none => rw [h4] at h; cases h
            | some p =>
              obtain ⟨G', r4⟩ := p
              rw [h4] at h
              simp only at h
              split at h
              · rename_i hv
                simp only [Option.some.injEq, Prod.mk.injEq] at h
                obtain ⟨rfl, rfl⟩ := h
                obtain ⟨a1, a2⟩ := getN_inv hl h1
                obtain ⟨b1, b2, b3⟩ := rowsL_inv m (isB_getN hl h1) h2
                obtain ⟨c1, c2⟩ := getN_inv b3 h3
                obtain ⟨d1, d2, d3⟩ := numsL_inv g (isB_getN b3 h3) h4
                refine ⟨hv.2, ?_⟩
                rw [a1, b1, c1, d1, hv.1, bytesQ, b2, d2, nm_nat (by omega), nm_nat (by omega)]
                simp
              · cases h
          · cases h
    · cases h
/-! ### the program's reading -/
theorem getR_ok {l : List Int} {n : Nat} {r : List Int} (h : getN l = some (n, r)) : getR l = ((n : Int), r, true) := by rw [getR, h]
theorem getR_no {l : List Int} (h : getN l = none) : getR l = (0, [], false) := by rw [getR, h]
theorem root_numbers_eq (n : Nat) (hn : n ≤ 1000) (l : List Int) (hl : isB l) : root_numbers (strOfNums l) (n : Int) = some (match numsL n l with | some (xs, r) => (xs, strOfNums r, true) | none => ([], (⟨#[]⟩ : ByteArray), false)) := by
  have hL := LIM_ge
  unfold root_numbers
  have := loopNI n (by omega) (fun k i (s : List Int × List Int) => root_numbers.l0 (n : Int) k (strOfNums s.1) s.2 i)
    (fun i s => some (match numsL (n - i) s.1 with | some (xs, r) => .inr (strOfNums r, s.2 ++ xs) | none => .inl (([] : List Int), (⟨#[]⟩ : ByteArray), false))) (fun i s => isB s.1 ∧ s.2.length ≤ i)
    (fun k s hs => by
      simp [root_numbers.l0, numsL])
    (fun k i hi hw s hs ih => by
      have hd : decide ((i : Int) < (n : Int)) = true := by simp; omega
      simp only [decide_true, if_true, and_self, Option.bind_some, root_numbers.l0, hd, wire_GetNum_eq _ hs.1, hw]
      obtain ⟨m, hm⟩ : ∃ m, n - i = m + 1 := ⟨n - i - 1, by omega⟩
      have hm' : n - (i + 1) = m := by omega
      rw [hm, numsL]
      cases h : getN s.1 with
      | none => rw [getR_no h]; rfl
      | some p =>
        rw [getR_ok (n := p.1) (r := p.2) h]
        simp only [Bool.not_true, Bool.false_eq_true, if_false]
        rw [if_pos (by simp; omega)]
        have := ih (p.2, s.2 ++ [(p.1 : Int)]) ⟨isB_getN hs.1 h, by simp; omega⟩
        simp only at this
        rw [this, hm']
        cases numsL m p.2 with
        | none => rfl
        | some q => simp) (l, []) ⟨hl, by simp⟩
  simp only [Nat.sub_zero] at this
  rw [show root_numbers.l0 (n : Int) FU (strOfNums l) [] 0 = _ from this]
  cases numsL n l with
  | none => rfl
  | some q => simp
theorem numsL_len {n : Nat} {l xs r : List Int} (hl : isB l) (h : numsL n l = some (xs, r)) : xs.length = n := (numsL_inv n hl h).2.1
def mkM (q : Q) : RootEntry := ⟨q.l, q.o, q.b, q.t⟩
def mkR (q : Q) : Ref15Entry := ⟨q.l, q.o, q.b, q.t⟩
theorem qM_mkM (M : List Q) : (M.map mkM).map qM = M := by
  rw [List.map_map]; conv => rhs; rw [← List.map_id M]
  rfl
theorem qR_mkR (M : List Q) : (M.map mkR).map qR = M := by
  rw [List.map_map]; conv => rhs; rw [← List.map_id M]
  rfl
theorem counted_1_eq (l : List Int) (hl : isB l) : root_counted_rootEntry__root_Get_1 (strOfNums l) 400 4 = some (match getN l with
    | some (m, r1) => if m ≤ 400 then match rowsL m r1 with
      | some (M, r2) => (M.map mkM, strOfNums r2, true)
      | none => ([], (⟨#[]⟩ : ByteArray), false)
      else ([], (⟨#[]⟩ : ByteArray), false)
    | none => ([], (⟨#[]⟩ : ByteArray), false)) := by
  have hL := LIM_ge
  unfold root_counted_rootEntry__root_Get_1
  rw [wire_GetNum_eq _ hl]
  simp only [Option.bind_some]
  cases h : getN l with
  | none => rw [getR_no h]; rfl
  | some p =>
    obtain ⟨n, l1⟩ := p
    rw [getR_ok h]
    simp only [Bool.not_true, Bool.false_eq_true, if_false, Option.bind_some]
    by_cases hn : n ≤ 400
    · have hd : decide ((n : Int) > 400) = false := by simp; omega
      rw [if_pos hn]
      simp only [hd, Bool.false_eq_true, if_false]
      have := loopNI n (by omega) (fun k i (s : List Int × List RootEntry) => root_counted_rootEntry__root_Get_1.l0 (n : Int) 4 k (strOfNums s.1) s.2 i)
        (fun i s => some (match rowsL (n - i) s.1 with | some (xs, r) => .inr (strOfNums r, s.2 ++ xs.map mkM) | none => .inl (([] : List RootEntry), (⟨#[]⟩ : ByteArray), false))) (fun i s => isB s.1 ∧ s.2.length ≤ i)
        (fun k s hs => by
          simp [root_counted_rootEntry__root_Get_1.l0, rowsL])
        (fun k i hi hw s hs ih => by
          have hd : decide ((i : Int) < (n : Int)) = true := by simp; omega
          have h4 := root_numbers_eq 4 (by decide) s.1 hs.1
          simp only [decide_true, if_true, and_self, Option.bind_some, root_counted_rootEntry__root_Get_1.l0, hd, hw]
          rw [show root_numbers (strOfNums s.1) 4 = _ from h4]
          obtain ⟨m, hm⟩ : ∃ m, n - i = m + 1 := ⟨n - i - 1, by omega⟩
          have hm' : n - (i + 1) = m := by omega
          rw [hm, rowsL]
          cases h5 : numsL 4 s.1 with
          | none => rfl
          | some p =>
            obtain ⟨xs, r⟩ := p
            obtain ⟨e1, e2, e3⟩ := numsL_inv 4 hs.1 h5
            match xs, e2 with
            | [a, b, c, d], _ =>
              have hg : root_Get_1 [a, b, c, d] = some ⟨a, b, c, d⟩ := rfl
              simp only [Bool.not_true, Bool.false_eq_true, if_false, Option.bind_some, hg]
              rw [if_pos (by simp; omega)]
              have := ih (r, s.2 ++ [⟨a, b, c, d⟩]) ⟨e3, by simp; omega⟩
              simp only at this
              rw [this, hm']
              cases rowsL m r with
              | none => rfl
              | some q => simp [mkM]) (l1, []) ⟨isB_getN hl h, by simp⟩
      simp only [Nat.sub_zero] at this
      rw [show root_counted_rootEntry__root_Get_1.l0 (n : Int) 4 FU (strOfNums l1) [] 0 = _ from this]
      cases rowsL n l1 with
      | none => rfl
      | some q => simp
    · have hd : decide ((n : Int) > 400) = true := by simp; omega
      rw [if_neg hn]
      simp only [hd, if_true]
theorem counted_2_eq (l : List Int) (hl : isB l) : root_counted_int__root_Get_2 (strOfNums l) 100 1 = some (match getN l with
    | some (m, r1) => if m ≤ 100 then match numsL m r1 with
      | some (M, r2) => (M, strOfNums r2, true)
      | none => ([], (⟨#[]⟩ : ByteArray), false)
      else ([], (⟨#[]⟩ : ByteArray), false)
    | none => ([], (⟨#[]⟩ : ByteArray), false)) := by
  have hL := LIM_ge
  unfold root_counted_int__root_Get_2
  rw [wire_GetNum_eq _ hl]
  simp only [Option.bind_some]
  cases h : getN l with
  | none => rw [getR_no h]; rfl
  | some p =>
    obtain ⟨n, l1⟩ := p
    rw [getR_ok h]
    simp only [Bool.not_true, Bool.false_eq_true, if_false, Option.bind_some]
    by_cases hn : n ≤ 100
    · have hd : decide ((n : Int) > 100) = false := by simp; omega
      rw [if_pos hn]
      simp only [hd, Bool.false_eq_true, if_false]
      have := loopNI n (by omega) (fun k i (s : List Int × List Int) => root_counted_int__root_Get_2.l0 (n : Int) 1 k (strOfNums s.1) s.2 i)
        (fun i s => some (match numsL (n - i) s.1 with | some (xs, r) => .inr (strOfNums r, s.2 ++ xs) | none => .inl (([] : List Int), (⟨#[]⟩ : ByteArray), false))) (fun i s => isB s.1 ∧ s.2.length ≤ i)
        (fun k s hs => by
          simp [root_counted_int__root_Get_2.l0, numsL])
        (fun k i hi hw s hs ih => by
          have hd : decide ((i : Int) < (n : Int)) = true := by simp; omega
          have h4 := root_numbers_eq 1 (by decide) s.1 hs.1
          simp only [decide_true, if_true, and_self, Option.bind_some, root_counted_int__root_Get_2.l0, hd, hw]
          rw [show root_numbers (strOfNums s.1) 1 = _ from h4]
          obtain ⟨m, hm⟩ : ∃ m, n - i = m + 1 := ⟨n - i - 1, by omega⟩
          have hm' : n - (i + 1) = m := by omega
          rw [hm]
          simp only [numsL]
          cases h5 : getN s.1 with
          | none => rfl
          | some p =>
            have hg : root_Get_2 [(p.1 : Int)] = some (p.1 : Int) := rfl
            simp only [Bool.not_true, Bool.false_eq_true, if_false, Option.bind_some, hg]
            rw [if_pos (by simp; omega)]
            have := ih (p.2, s.2 ++ [(p.1 : Int)]) ⟨isB_getN hs.1 h5, by simp; omega⟩
            simp only at this
            rw [this, hm']
            cases numsL m p.2 with
            | none => rfl
            | some q => simp) (l1, []) ⟨isB_getN hl h, by simp⟩
      simp only [Nat.sub_zero] at this
      rw [show root_counted_int__root_Get_2.l0 (n : Int) 1 FU (strOfNums l1) [] 0 = _ from this]
      cases numsL n l1 with
      | none => rfl
      | some q => simp
    · have hd : decide ((n : Int) > 100) = true := by simp; omega
      rw [if_neg hn]
      simp only [hd, if_true]
end Go.Cen
