/- ROOT: put, drop, find. -/
import Derived.Test.YthdoklobbcedcabRootN
set_option linter.unusedVariables false
set_option linter.unusedSimpArgs false
namespace Go.Cen
theorem compare_eq (a b : Int) : cmp_Compare_int a b = some (if a < b then -1 else if a > b then 1 else 0) := by
  unfold cmp_Compare_int cmp_isNaN_int
  simp only [bne_self_eq_false, Option.bind_some, Bool.false_eq_true, if_false]
  by_cases h : a < b
  · simp [h]
  · by_cases h2 : a > b
    · simp [h, h2]
    · simp [h, h2]
theorem cmp_ge (a b : Int) : decide ((if a < b then (-1 : Int) else if a > b then 1 else 0) ≥ 0) = decide (a ≥ b) := by
  by_cases h : a < b
  · have : ¬ a ≥ b := by omega
    simp [h, this]
  · have : a ≥ b := by omega
    rw [if_neg h]
    by_cases h2 : a > b
    · simp [h2, this]
    · simp [h2, this]
theorem put_1_eq (e : RootEntry) (v : Int) : root_put_rootEntry_1 e v = some (decide (e.Logic ≥ v)) := by
  simp only [root_put_rootEntry_1, root_logic, Option.bind_some, compare_eq, cmp_ge]
theorem puti_1_eq (e : Int) (v : Int) : root_put_int_1 e v = some (decide (e ≥ v)) := by
  simp only [root_put_int_1, root_self, Option.bind_some, compare_eq, cmp_ge]
theorem idx_fin {α : Type} (p : α → Bool) (xs : List α) : ((some (if fidx p xs < 0 then .inr () else .inl (id (fidx p xs))) : Option (Int ⊕ Unit)).bind fun r => match r with | .inl v => some v | .inr _ => some (-1)) = some (fidx p xs) := by
  have := fidx_ge p xs
  by_cases h : fidx p xs < 0
  · have e : fidx p xs = -1 := by omega
    rw [if_pos h, e]; rfl
  · rw [if_neg h]; rfl
theorem idx_put_1 (xs : List RootEntry) (v : Int) (h : xs.length ≤ 2305843009213693952) : slices_IndexFunc_rootEntry__root_put_rootEntry_1 xs v = some (fidx (fun e => decide (e.Logic ≥ v)) xs) := by
  unfold slices_IndexFunc_rootEntry__root_put_rootEntry_1
  rw [loop_idx xs h (fun e => decide (e.Logic ≥ v)) id (fun k i => slices_IndexFunc_rootEntry__root_put_rootEntry_1.l0 xs v k i)
    (fun k hd => by simp only [slices_IndexFunc_rootEntry__root_put_rootEntry_1.l0, hd]; rfl)
    (fun k i hi hd hg hw => by simp only [slices_IndexFunc_rootEntry__root_put_rootEntry_1.l0, hd, hg, hw, put_1_eq, Option.bind_some, if_true, and_self]; rfl)]
  exact idx_fin _ _
theorem idx_puti_1 (xs : List Int) (v : Int) (h : xs.length ≤ 2305843009213693952) : slices_IndexFunc_int__root_put_int_1 xs v = some (fidx (fun e => decide (e ≥ v)) xs) := by
  unfold slices_IndexFunc_int__root_put_int_1
  rw [loop_idx xs h (fun e => decide (e ≥ v)) id (fun k i => slices_IndexFunc_int__root_put_int_1.l0 xs v k i)
    (fun k hd => by simp only [slices_IndexFunc_int__root_put_int_1.l0, hd]; rfl)
    (fun k i hi hd hg hw => by simp only [slices_IndexFunc_int__root_put_int_1.l0, hd, hg, hw, puti_1_eq, Option.bind_some, if_true, and_self]; rfl)]
  exact idx_fin _ _
theorem idx_find (xs : List RootEntry) (v : Int) (h : xs.length ≤ 2305843009213693952) : slices_IndexFunc_rootEntry__root_Find_1 xs v = some (fidx (fun e => e.Logic == v) xs) := by
  unfold slices_IndexFunc_rootEntry__root_Find_1
  rw [loop_idx xs h (fun e => e.Logic == v) id (fun k i => slices_IndexFunc_rootEntry__root_Find_1.l0 xs v k i)
    (fun k hd => by simp only [slices_IndexFunc_rootEntry__root_Find_1.l0, hd]; rfl)
    (fun k i hi hd hg hw => by simp only [slices_IndexFunc_rootEntry__root_Find_1.l0, hd, hg, hw, root_Find_1, Option.bind_some, if_true, and_self]; rfl)]
  exact idx_fin _ _
/-- a search that also hands back what it searched -/
theorem idx_put_2m (xs : List RootEntry) (v : Int) (h : xs.length ≤ 2305843009213693952) : slices_IndexFunc_rootEntry__root_put_rootEntry_2_m xs v = some (fidx (fun e => e.Logic == v) xs, xs) := by
  unfold slices_IndexFunc_rootEntry__root_put_rootEntry_2_m
  rw [loop_idx xs h (fun e => e.Logic == v) (fun i => (i, xs)) (fun k i => slices_IndexFunc_rootEntry__root_put_rootEntry_2_m.l0 xs v k i)
    (fun k hd => by simp only [slices_IndexFunc_rootEntry__root_put_rootEntry_2_m.l0, hd]; rfl)
    (fun k i hi hd hg hw => by simp only [slices_IndexFunc_rootEntry__root_put_rootEntry_2_m.l0, hd, hg, hw, root_put_rootEntry_2, root_logic, Option.bind_some, decide_true, if_true, and_self])]
  have hge := fidx_ge (fun e : RootEntry => e.Logic == v) xs
  by_cases hh : fidx (fun e : RootEntry => e.Logic == v) xs < 0
  · have e : fidx (fun e : RootEntry => e.Logic == v) xs = -1 := by omega
    rw [if_pos hh, e]; rfl
  · rw [if_neg hh]; rfl
theorem idx_drop_m (xs : List RootEntry) (v : Int) (h : xs.length ≤ 2305843009213693952) : slices_IndexFunc_rootEntry__root_Drop_1_m xs v = some (fidx (fun e => e.Logic == v) xs, xs) := by
  unfold slices_IndexFunc_rootEntry__root_Drop_1_m
  rw [loop_idx xs h (fun e => e.Logic == v) (fun i => (i, xs)) (fun k i => slices_IndexFunc_rootEntry__root_Drop_1_m.l0 xs v k i)
    (fun k hd => by simp only [slices_IndexFunc_rootEntry__root_Drop_1_m.l0, hd]; rfl)
    (fun k i hi hd hg hw => by simp only [slices_IndexFunc_rootEntry__root_Drop_1_m.l0, hd, hg, hw, root_Drop_1, Option.bind_some, decide_true, if_true, and_self])]
  have hge := fidx_ge (fun e : RootEntry => e.Logic == v) xs
  by_cases hh : fidx (fun e : RootEntry => e.Logic == v) xs < 0
  · have e : fidx (fun e : RootEntry => e.Logic == v) xs = -1 := by omega
    rw [if_pos hh, e]; rfl
  · rw [if_neg hh]; rfl
theorem idx_puti_2m (xs : List Int) (v : Int) (h : xs.length ≤ 2305843009213693952) : slices_IndexFunc_int__root_put_int_2_m xs v = some (fidx (fun e => e == v) xs, xs) := by
  unfold slices_IndexFunc_int__root_put_int_2_m
  rw [loop_idx xs h (fun e => e == v) (fun i => (i, xs)) (fun k i => slices_IndexFunc_int__root_put_int_2_m.l0 xs v k i)
    (fun k hd => by simp only [slices_IndexFunc_int__root_put_int_2_m.l0, hd]; rfl)
    (fun k i hi hd hg hw => by simp only [slices_IndexFunc_int__root_put_int_2_m.l0, hd, hg, hw, root_put_int_2, root_self, Option.bind_some, decide_true, if_true, and_self])]
  have hge := fidx_ge (fun e : Int => e == v) xs
  by_cases hh : fidx (fun e : Int => e == v) xs < 0
  · have e : fidx (fun e : Int => e == v) xs = -1 := by omega
    rw [if_pos hh, e]; rfl
  · rw [if_neg hh]; rfl
theorem first_keep {α : Type} {p : α → Bool} {xs : List α} {n : Nat} (h : fidx p xs = (n : Int)) : (xs.take (n + 1)).filter (fun x => !p x) = xs.take n := by
  obtain ⟨a, b, x, c, d⟩ := fidx_first p xs n h
  have hx : xs[n] = x := by
    have := congrArg (fun l => l[0]?) c
    simp only [List.getElem?_drop, Nat.add_zero, List.getElem?_cons_zero, List.getElem?_eq_getElem a] at this
    exact Option.some.inj this
  rw [List.take_succ_eq_append_getElem a, List.filter_append, filter_all b, hx]
  simp [d]
theorem del_put_2 (xs : List RootEntry) (v : Int) (h : xs.length ≤ 2305843009213693952) : slices_DeleteFunc_rootEntry__root_put_rootEntry_2 xs v = some (xs.filter fun e => !(e.Logic == v)) := by
  unfold slices_DeleteFunc_rootEntry__root_put_rootEntry_2
  rw [idx_put_2m xs v h]
  simp only [Option.bind_some]
  have hge := fidx_ge (fun e : RootEntry => e.Logic == v) xs
  by_cases hn : fidx (fun e : RootEntry => e.Logic == v) xs < 0
  · have e : fidx (fun e : RootEntry => e.Logic == v) xs = -1 := by omega
    rw [e]
    simp only [BEq.rfl, if_true]
    rw [filter_all (fidx_neg _ _ hn)]
  · obtain ⟨n, hnn⟩ : ∃ n : Nat, fidx (fun e : RootEntry => e.Logic == v) xs = (n : Int) := ⟨(fidx (fun e : RootEntry => e.Logic == v) xs).toNat, by omega⟩
    have hlt := (fidx_first _ _ _ hnn).1
    have hw : wi64 ((n : Int) + 1) = ((n + 1 : Nat) : Int) := by rw [wi64_id (by omega)]; omega
    obtain ⟨ys, i, e1, e2, e3, e4⟩ := loop_del xs h (fun e => e.Logic == v) n hlt (first_keep hnn) (fun k ys i j => slices_DeleteFunc_rootEntry__root_put_rootEntry_2.l0 v k ys i j)
      (fun k ys i hl hd => by simp only [slices_DeleteFunc_rootEntry__root_put_rootEntry_2.l0, hd]; rfl)
      (fun k ys i j hl hij hj hd hg hg2 hw1 hw2 => by
        simp only [slices_DeleteFunc_rootEntry__root_put_rootEntry_2.l0, hd, hg, hg2, hw1, hw2, root_put_rootEntry_2, root_logic, Option.bind_some, if_true, and_self]
        cases (gt ys (j : Int)).Logic == v <;> rfl)
    have hne : (((n : Int) == -1) = true) = False := by simp
    rw [hnn]
    simp only [hne, if_false, hw]
    rw [e1]
    exact del_end _ e2 e3 e4
theorem del_drop (xs : List RootEntry) (v : Int) (h : xs.length ≤ 2305843009213693952) : slices_DeleteFunc_rootEntry__root_Drop_1 xs v = some (xs.filter fun e => !(e.Logic == v)) := by
  unfold slices_DeleteFunc_rootEntry__root_Drop_1
  rw [idx_drop_m xs v h]
  simp only [Option.bind_some]
  have hge := fidx_ge (fun e : RootEntry => e.Logic == v) xs
  by_cases hn : fidx (fun e : RootEntry => e.Logic == v) xs < 0
  · have e : fidx (fun e : RootEntry => e.Logic == v) xs = -1 := by omega
    rw [e]
    simp only [BEq.rfl, if_true]
    rw [filter_all (fidx_neg _ _ hn)]
  · obtain ⟨n, hnn⟩ : ∃ n : Nat, fidx (fun e : RootEntry => e.Logic == v) xs = (n : Int) := ⟨(fidx (fun e : RootEntry => e.Logic == v) xs).toNat, by omega⟩
    have hlt := (fidx_first _ _ _ hnn).1
    have hw : wi64 ((n : Int) + 1) = ((n + 1 : Nat) : Int) := by rw [wi64_id (by omega)]; omega
    obtain ⟨ys, i, e1, e2, e3, e4⟩ := loop_del xs h (fun e => e.Logic == v) n hlt (first_keep hnn) (fun k ys i j => slices_DeleteFunc_rootEntry__root_Drop_1.l0 v k ys i j)
      (fun k ys i hl hd => by simp only [slices_DeleteFunc_rootEntry__root_Drop_1.l0, hd]; rfl)
      (fun k ys i j hl hij hj hd hg hg2 hw1 hw2 => by
        simp only [slices_DeleteFunc_rootEntry__root_Drop_1.l0, hd, hg, hg2, hw1, hw2, root_Drop_1, Option.bind_some, if_true, and_self]
        cases (gt ys (j : Int)).Logic == v <;> rfl)
    have hne : (((n : Int) == -1) = true) = False := by simp
    rw [hnn]
    simp only [hne, if_false, hw]
    rw [e1]
    exact del_end _ e2 e3 e4
theorem del_puti (xs : List Int) (v : Int) (h : xs.length ≤ 2305843009213693952) : slices_DeleteFunc_int__root_put_int_2 xs v = some (xs.filter fun e => !(e == v)) := by
  unfold slices_DeleteFunc_int__root_put_int_2
  rw [idx_puti_2m xs v h]
  simp only [Option.bind_some]
  have hge := fidx_ge (fun e : Int => e == v) xs
  by_cases hn : fidx (fun e : Int => e == v) xs < 0
  · have e : fidx (fun e : Int => e == v) xs = -1 := by omega
    rw [e]
    simp only [BEq.rfl, if_true]
    rw [filter_all (fidx_neg _ _ hn)]
  · obtain ⟨n, hnn⟩ : ∃ n : Nat, fidx (fun e : Int => e == v) xs = (n : Int) := ⟨(fidx (fun e : Int => e == v) xs).toNat, by omega⟩
    have hlt := (fidx_first _ _ _ hnn).1
    have hw : wi64 ((n : Int) + 1) = ((n + 1 : Nat) : Int) := by rw [wi64_id (by omega)]; omega
    obtain ⟨ys, i, e1, e2, e3, e4⟩ := loop_del xs h (fun e => e == v) n hlt (first_keep hnn) (fun k ys i j => slices_DeleteFunc_int__root_put_int_2.l0 v k ys i j)
      (fun k ys i hl hd => by simp only [slices_DeleteFunc_int__root_put_int_2.l0, hd]; rfl)
      (fun k ys i j hl hij hj hd hg hg2 hw1 hw2 => by
        simp only [slices_DeleteFunc_int__root_put_int_2.l0, hd, hg, hg2, hw1, hw2, root_put_int_2, root_self, Option.bind_some, if_true, and_self]
        cases gt ys (j : Int) == v <;> rfl)
    have hne : (((n : Int) == -1) = true) = False := by simp
    rw [hnn]
    simp only [hne, if_false, hw]
    rw [e1]
    exact del_end _ e2 e3 e4
/-- where a key belongs -/
def spot {α : Type} (key : α → Int) (M : List α) (v : Int) : Nat := if fidx (fun e => decide (key e ≥ v)) M < 0 then M.length else (fidx (fun e => decide (key e ≥ v)) M).toNat
def putX {α : Type} (key : α → Int) (M : List α) (e : α) : List α :=
  ((M.take (spot key M (key e))).filter fun u => !(key u == key e)) ++ [e] ++ ((M.drop (spot key M (key e))).filter fun u => !(key u == key e))
theorem spot_le {α : Type} (key : α → Int) (M : List α) (v : Int) : spot key M v ≤ M.length := by
  have := fidx_lt (fun e => decide (key e ≥ v)) M
  unfold spot
  split <;> omega
theorem root_Set_eq (M : List RootEntry) (G : List Int) (e : RootEntry) (h : M.length ≤ 100000) : root_Set M G e = some (putX RootEntry.Logic M e, G) := by
  have hL := LIM_ge
  unfold root_Set root_put_rootEntry__root_logic
  simp only [root_logic, Option.bind_some]
  rw [idx_put_1 M e.Logic (by omega)]
  simp only [Option.bind_some]
  have hge := fidx_ge (fun u : RootEntry => decide (u.Logic ≥ e.Logic)) M
  have hsp : (if decide (fidx (fun u : RootEntry => decide (u.Logic ≥ e.Logic)) M < 0) = true then some (M.length : Int) else some (fidx (fun u : RootEntry => decide (u.Logic ≥ e.Logic)) M)) = some ((spot RootEntry.Logic M e.Logic : Nat) : Int) := by
    unfold spot
    by_cases hn : fidx (fun u : RootEntry => decide (u.Logic ≥ e.Logic)) M < 0
    · simp [hn]
    · simp only [hn, decide_false, Bool.false_eq_true, if_false]
      congr 1; omega
  rw [hsp]
  have hsl := spot_le RootEntry.Logic M e.Logic
  obtain ⟨n, hn⟩ : ∃ n, n = spot RootEntry.Logic M e.Logic := ⟨_, rfl⟩
  rw [← hn] at hsl ⊢
  simp only [Option.bind_some]
  rw [if_pos (by omega)]
  have s1 : sub M 0 (n : Int) = M.take n := by simp [sub]
  have s2 : sub M (n : Int) (M.length : Int) = M.drop n := by
    simp only [sub, Int.toNat_natCast]
    exact List.take_of_length_le (by simp)
  have l1 : ((M.take n).filter fun u => !(u.Logic == e.Logic)).length ≤ 100000 := Nat.le_trans (List.length_filter_le _ _) (by simp; omega)
  have l2 : ((M.drop n).filter fun u => !(u.Logic == e.Logic)).length ≤ 100000 := Nat.le_trans (List.length_filter_le _ _) (by simp; omega)
  simp only [slices_Clone_rootEntry, s1, s2, List.nil_append]
  rw [if_pos (by simp; omega)]
  simp only [Option.bind_some]
  rw [del_put_2 _ _ (by simp; omega)]
  simp only [Option.bind_some]
  rw [if_pos (by omega), if_pos (by simp; omega)]
  simp only [Option.bind_some]
  rw [del_put_2 _ _ (by simp; omega)]
  simp only [Option.bind_some]
  rw [if_pos (by simp only [List.length_cons, List.length_nil]; omega), if_pos (by rw [List.length_append]; simp only [List.length_cons, List.length_nil]; omega)]
  simp only [putX, ← hn, Option.bind_some]
theorem root_Lose_eq (M : List RootEntry) (G : List Int) (e : Int) (h : G.length ≤ 100000) : root_Lose M G e = some (M, putX id G e) := by
  have hL := LIM_ge
  unfold root_Lose root_put_int__root_self
  simp only [root_self, Option.bind_some]
  rw [idx_puti_1 G e (by omega)]
  simp only [Option.bind_some]
  have hge := fidx_ge (fun u : Int => decide (u ≥ e)) G
  have hsp : (if decide (fidx (fun u : Int => decide (u ≥ e)) G < 0) = true then some (G.length : Int) else some (fidx (fun u : Int => decide (u ≥ e)) G)) = some ((spot id G e : Nat) : Int) := by
    unfold spot
    simp only [id]
    by_cases hn : fidx (fun u : Int => decide (u ≥ e)) G < 0
    · simp [hn]
    · simp only [hn, decide_false, Bool.false_eq_true, if_false]
      congr 1; omega
  rw [hsp]
  have hsl := spot_le id G e
  obtain ⟨n, hn⟩ : ∃ n, n = spot id G e := ⟨_, rfl⟩
  rw [← hn] at hsl ⊢
  simp only [Option.bind_some]
  rw [if_pos (by omega)]
  have s1 : sub G 0 (n : Int) = G.take n := by simp [sub]
  have s2 : sub G (n : Int) (G.length : Int) = G.drop n := by
    simp only [sub, Int.toNat_natCast]
    exact List.take_of_length_le (by simp)
  have l1 : ((G.take n).filter fun u => !(u == e)).length ≤ 100000 := Nat.le_trans (List.length_filter_le _ _) (by simp; omega)
  have l2 : ((G.drop n).filter fun u => !(u == e)).length ≤ 100000 := Nat.le_trans (List.length_filter_le _ _) (by simp; omega)
  simp only [slices_Clone_int, s1, s2, List.nil_append]
  rw [if_pos (by simp; omega)]
  simp only [Option.bind_some]
  rw [del_puti _ _ (by simp; omega)]
  simp only [Option.bind_some]
  rw [if_pos (by omega), if_pos (by simp; omega)]
  simp only [Option.bind_some]
  rw [del_puti _ _ (by simp; omega)]
  simp only [Option.bind_some]
  rw [if_pos (by simp only [List.length_cons, List.length_nil]; omega), if_pos (by rw [List.length_append]; simp only [List.length_cons, List.length_nil]; omega)]
  have hi : spot id G (id e) = n := hn.symm
  simp only [putX, hi, Option.bind_some, id]
  rw [hn]
theorem root_Drop_eq (M : List RootEntry) (G : List Int) (v : Int) (h : M.length ≤ 100000) : root_Drop M G v = some (M.filter (fun e => !(e.Logic == v)), G) := by
  have hL := LIM_ge
  unfold root_Drop
  simp only [slices_Clone_rootEntry, List.nil_append]
  rw [if_pos (by simp; omega)]
  simp only [Option.bind_some]
  rw [del_drop _ _ (by omega)]
  rfl
def zeroE : RootEntry := ⟨0, 0, 0, 0⟩
/-- what is found -/
def findX (M : List RootEntry) (v : Int) : RootEntry × Bool := match M.find? (fun e => e.Logic == v) with
  | some e => (e, true)
  | none => (zeroE, false)
theorem fidx_find {α : Type} [Inhabited α] (p : α → Bool) : ∀ (xs : List α), (fidx p xs < 0 ∧ xs.find? p = none) ∨ (0 ≤ fidx p xs ∧ xs.find? p = some (gt xs (fidx p xs)))
  | [] => .inl ⟨(by decide : (-1 : Int) < 0), rfl⟩
  | x :: r => by
    rw [fidx_cons, List.find?_cons]
    by_cases hp : p x = true
    · rw [if_pos hp, hp]
      exact .inr ⟨by omega, rfl⟩
    · rw [if_neg hp]
      have hp' : p x = false := by simpa using hp
      rw [hp']
      rcases fidx_find p r with ⟨a, b⟩ | ⟨a, b⟩
      · rw [if_pos a]; exact .inl ⟨by omega, b⟩
      · rw [if_neg (by omega)]
        refine .inr ⟨by omega, ?_⟩
        simp only [b]
        obtain ⟨n, hn⟩ : ∃ n : Nat, fidx p r = (n : Int) := ⟨(fidx p r).toNat, by omega⟩
        rw [hn]
        have : ((n : Int) + 1).toNat = n + 1 := by omega
        simp [gt, this]
theorem root_Find_eq (M : List RootEntry) (G : List Int) (v : Int) (h : M.length ≤ 100000) : root_Find M G v = some (findX M v) := by
  unfold root_Find
  rw [idx_find M v (by omega)]
  simp only [Option.bind_some, findX]
  have hlt := fidx_lt (fun e : RootEntry => e.Logic == v) M
  rcases fidx_find (fun e : RootEntry => e.Logic == v) M with ⟨a, b⟩ | ⟨a, b⟩
  · rw [b]
    simp only [a, decide_true, if_true]
    rfl
  · rw [b]
    have : ¬ fidx (fun e : RootEntry => e.Logic == v) M < 0 := by omega
    simp only [this, decide_false, Bool.false_eq_true, if_false]
    rw [if_pos ⟨a, hlt⟩]
end Go.Cen
