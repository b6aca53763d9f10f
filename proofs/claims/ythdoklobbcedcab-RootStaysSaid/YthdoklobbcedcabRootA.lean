/- ROOT: what is valid, and its bytes. -/
import Derived.Test.YthdoklobbcedcabWireA
import Derived.Test.YthdoklobbcedcabCenPl
set_option linter.unusedVariables false
set_option linter.unusedSimpArgs false
namespace Go.Cen
/-- one row, as four numbers -/
structure Q where
  l : Int
  o : Int
  b : Int
  t : Int
  deriving DecidableEq
def qM (e : RootEntry) : Q := ⟨e.Logic, e.Owner, e.Block, e.At⟩
def qR (e : Ref15Entry) : Q := ⟨e.Logic, e.Owner, e.Block, e.At⟩
theorem qM_inj {a b : RootEntry} (h : qM a = qM b) : a = b := by cases a; cases b; simp [qM] at h; simp [h]
theorem qR_inj {a b : Ref15Entry} (h : qR a = qR b) : a = b := by cases a; cases b; simp [qR] at h; simp [h]
theorem map_inj' {α β : Type} {f : α → β} (hf : ∀ a b, f a = f b → a = b) : ∀ {xs ys : List α}, xs.map f = ys.map f → xs = ys
  | [], [], _ => rfl
  | [], _ :: _, h => by cases h
  | _ :: _, [], h => by cases h
  | x :: xs, y :: ys, h => by
    simp only [List.map_cons, List.cons.injEq] at h
    rw [hf _ _ h.1, map_inj' hf h.2]
def within (a m : Int) : Bool := decide (0 ≤ a) && decide (a ≤ m)
theorem root_within_eq (a m : Int) : root_within a m = some (within a m) := by
  unfold root_within within
  by_cases h : a ≥ 0
  · have : 0 ≤ a := h
    simp [h]
  · have : ¬ 0 ≤ a := h
    simp [h, this]
def okQ (q : Q) : Bool := within q.l 1099511627776 && within q.o 1099511627776 && within q.b 63 && within q.t 31
def okG (g : Int) : Bool := within g 1099511627776
def validQ (M : List Q) (G : List Int) : Bool := decide (M.length ≤ 400) && decide (G.length ≤ 100) && M.all okQ && G.all okG && rising (M.map Q.l) && rising G
theorem root_Valid_1_eq (e : RootEntry) : root_Valid_1 e = some (!okQ (qM e)) := by
  simp only [root_Valid_1, root_within_eq, Option.bind_some, okQ, qM]
  cases within e.Logic 1099511627776 <;> cases within e.Owner 1099511627776 <;> cases within e.Block 63 <;> cases within e.At 31 <;> rfl
theorem root_Valid_2_eq (g : Int) : root_Valid_2 g = some (!okG g) := by
  simp only [root_Valid_2, root_within_eq, Option.bind_some, okG]
theorem idx_Valid_1 (xs : List RootEntry) (h : xs.length ≤ 2305843009213693952) : slices_IndexFunc_rootEntry__root_Valid_1 xs = some (fidx (fun e => !okQ (qM e)) xs) := by
  unfold slices_IndexFunc_rootEntry__root_Valid_1
  rw [loop_idx xs h (fun e => !okQ (qM e)) id (fun k i => slices_IndexFunc_rootEntry__root_Valid_1.l0 xs k i)
    (fun k hd => by simp only [slices_IndexFunc_rootEntry__root_Valid_1.l0, hd]; rfl)
    (fun k i hi hd hg hw => by simp only [slices_IndexFunc_rootEntry__root_Valid_1.l0, hd, hg, hw, root_Valid_1_eq, Option.bind_some, if_true, and_self]; rfl)]
  have := fidx_ge (fun e => !okQ (qM e)) xs
  split
  · simp; omega
  · simp
theorem idx_Valid_2 (xs : List Int) (h : xs.length ≤ 2305843009213693952) : slices_IndexFunc_int__root_Valid_2 xs = some (fidx (fun e => !okG e) xs) := by
  unfold slices_IndexFunc_int__root_Valid_2
  rw [loop_idx xs h (fun e => !okG e) id (fun k i => slices_IndexFunc_int__root_Valid_2.l0 xs k i)
    (fun k hd => by simp only [slices_IndexFunc_int__root_Valid_2.l0, hd]; rfl)
    (fun k i hi hd hg hw => by simp only [slices_IndexFunc_int__root_Valid_2.l0, hd, hg, hw, root_Valid_2_eq, Option.bind_some, if_true, and_self]; rfl)]
  have := fidx_ge (fun e => !okG e) xs
  split
  · simp; omega
  · simp
theorem rise_M (xs : List RootEntry) (h : xs.length ≤ 2305843009213693952) : root_rising_rootEntry__root_logic xs = some (rising (xs.map RootEntry.Logic)) := by
  unfold root_rising_rootEntry__root_logic
  rw [loop_rise xs RootEntry.Logic (fun _ => false) h (fun k i => root_rising_rootEntry__root_logic.l0 xs k i)
    (fun k hd => by simp only [root_rising_rootEntry__root_logic.l0, hd]; rfl)
    (fun k hne hd hg hw => by simp only [root_rising_rootEntry__root_logic.l0, hd, hg, hw, if_true, and_self]; rfl)
    (fun k i hi hd hp hg hw1 hg1 hw => by simp only [root_rising_rootEntry__root_logic.l0, hd, hp, hg, hw1, hg1, hw, root_logic, Option.bind_some, decide_true, if_true, and_self, Bool.false_or])]
  have : xs.all (fun x => !false) = true := by simp
  rw [this, Bool.true_and]
  cases rising (xs.map RootEntry.Logic) <;> rfl
theorem rise_G (xs : List Int) (h : xs.length ≤ 2305843009213693952) : root_rising_int__root_self xs = some (rising xs) := by
  unfold root_rising_int__root_self
  rw [loop_rise xs id (fun _ => false) h (fun k i => root_rising_int__root_self.l0 xs k i)
    (fun k hd => by simp only [root_rising_int__root_self.l0, hd]; rfl)
    (fun k hne hd hg hw => by simp only [root_rising_int__root_self.l0, hd, hg, hw, if_true, and_self]; rfl)
    (fun k i hi hd hp hg hw1 hg1 hw => by simp only [root_rising_int__root_self.l0, hd, hp, hg, hw1, hg1, hw, root_self, Option.bind_some, decide_true, if_true, and_self, Bool.false_or, id])]
  have : xs.all (fun x => !false) = true := by simp
  rw [this, Bool.true_and, List.map_id]
  cases rising xs <;> rfl
theorem map_l (M : List RootEntry) : (M.map qM).map Q.l = M.map RootEntry.Logic := by rw [List.map_map]; rfl
theorem root_Valid_eq (M : List RootEntry) (G : List Int) : root_Valid M G = some (validQ (M.map qM) G) := by
  unfold root_Valid validQ
  rw [List.length_map, List.all_map, map_l]
  by_cases h1 : M.length ≤ 400
  · have h1' : (M.length : Int) ≤ 400 := by omega
    by_cases h2 : G.length ≤ 100
    · have h2' : (G.length : Int) ≤ 100 := by omega
      have a1 : slices_ContainsFunc_rootEntry__root_Valid_1 M = some (!(M.all (okQ ∘ qM))) := by
        simp only [slices_ContainsFunc_rootEntry__root_Valid_1, idx_Valid_1 M (by omega), Option.bind_some, fidx_any]
        rw [List.all_eq_not_any_not, Bool.not_not]; rfl
      have a2 : slices_ContainsFunc_int__root_Valid_2 G = some (!(G.all okG)) := by
        simp only [slices_ContainsFunc_int__root_Valid_2, idx_Valid_2 G (by omega), Option.bind_some, fidx_any]
        rw [List.all_eq_not_any_not, Bool.not_not]
      rw [if_pos (by simpa using h1'), if_pos (by simpa using h2'), a1, a2, rise_M M (by omega), rise_G G (by omega)]
      simp only [Option.bind_some, Bool.not_not, h1, h2, decide_true, Bool.true_and]
      cases M.all (okQ ∘ qM) <;> cases G.all okG <;> cases rising (M.map RootEntry.Logic) <;> cases rising G <;> rfl
    · have h2' : ¬ (G.length : Int) ≤ 100 := by omega
      rw [if_pos (by simpa using h1'), if_neg (by simpa using h2')]
      simp [h2]
  · have h1' : ¬ (M.length : Int) ≤ 400 := by omega
    rw [if_neg (by simpa using h1')]
    simp [h1]
def toR (e : RootEntry) : Ref15Entry := ⟨e.Logic, e.Owner, e.Block, e.At⟩
theorem qR_toR (e : RootEntry) : qR (toR e) = qM e := rfl
theorem map_toR (M : List RootEntry) : (M.map toR).map qR = M.map qM := by rw [List.map_map]; rfl
theorem law15_Of_eq (M : List RootEntry) (G : List Int) (h : M.length ≤ 1000) : law15_Of M G = some (M.map toR, G) := by
  unfold law15_Of
  have hL := LIM_ge
  have := loopI M (by omega) (fun k i (s : List Ref15Entry) => law15_Of.l0 M k i s G) (fun l s => some (s ++ l.map toR, G)) (fun l s => s.length + l.length ≤ 1000)
    (fun k s hd hI => by
      simp only [law15_Of.l0, hd, List.map_nil, List.append_nil]
      rfl)
    (fun k i x r s hi hl hm hd hg hx hw hI ih => by
      have hg2 : s.length + ([Ref15Entry.mk x.Logic x.Owner x.Block x.At]).length ≤ LIM := by simp at hI ⊢; omega
      simp only [law15_Of.l0, hd, hg, hx, hw, hg2, if_true, and_self]
      rw [ih _ (by simp at hI ⊢; omega)]
      simp [toR]) [] (by simpa using h)
  rw [show law15_Of.l0 M FU 0 [] G = _ from this]
  rfl
theorem within_not (a m : Int) : (!within a m) = (decide (a < 0) || decide (a > m)) := by
  unfold within
  by_cases h : a < 0
  · have : ¬ 0 ≤ a := by omega
    simp [h, this]
  · have h' : 0 ≤ a := by omega
    by_cases h2 : a > m
    · have : ¬ a ≤ m := by omega
      simp [h', h2, this]
    · have : a ≤ m := by omega
      simp [h, h', h2, this]
theorem bad_eq (e : Ref15Entry) : (!okQ (qR e)) = (decide (e.Logic < 0) || (decide (e.Logic > 1099511627776) || (decide (e.Owner < 0) || (decide (e.Owner > 1099511627776) || (decide (e.Block < 0) || (decide (e.Block > 63) || (decide (e.At < 0) || decide (e.At > 31)))))))) := by
  simp only [okQ, qR, Bool.not_and, within_not, Bool.or_assoc]
theorem badG_eq (e : Int) : (!okG e) = (decide (e < 0) || decide (e > 1099511627776)) := by
  simp only [okG, within_not]
theorem ref15_Valid_eq (M : List Ref15Entry) (G : List Int) : ref15_Valid M G = some (validQ (M.map qR) G) := by
  unfold ref15_Valid validQ
  rw [List.length_map, List.all_map, List.map_map]
  by_cases h1 : M.length ≤ 400
  · have h1' : ¬ (M.length : Int) > 400 := by omega
    by_cases h2 : G.length ≤ 100
    · have h2' : ¬ (G.length : Int) > 100 := by omega
      have a0 : ref15_Valid.l0 M FU 0 = some (if (M.all (okQ ∘ qR) && rising (M.map (Q.l ∘ qR))) = true then .inr () else .inl false) := by
        have := loop_rise M (Q.l ∘ qR) (fun e => !okQ (qR e)) (by omega) (fun k i => ref15_Valid.l0 M k i)
          (fun k hd => by simp only [ref15_Valid.l0, hd]; rfl)
          (fun k hne hd hg hw => by
            have hp : decide ((0 : Int) > 0) = false := rfl
            simp only [ref15_Valid.l0, hd, hg, hw, hp, decide_true, if_true, and_self, orS, Bool.false_eq_true, if_false, Bool.or_false, Option.bind_some, ← bad_eq])
          (fun k i hi hd hp hg hw1 hg1 hw => by
            simp only [ref15_Valid.l0, hd, hp, hg, hw1, hg1, hw, decide_true, if_true, and_self, orS, Option.bind_some, bad_eq, Bool.or_assoc, Function.comp]; rfl)
        have e : M.all (fun x => !(!okQ (qR x))) = M.all (okQ ∘ qR) := by congr 1; funext x; simp
        rw [e] at this
        exact this
      have b0 : ref15_Valid.l1 G FU 0 = some (if (G.all okG && rising G) = true then .inr () else .inl false) := by
        have := loop_rise G id (fun e => !okG e) (by omega) (fun k i => ref15_Valid.l1 G k i)
          (fun k hd => by simp only [ref15_Valid.l1, hd]; rfl)
          (fun k hne hd hg hw => by
            have hp : decide ((0 : Int) > 0) = false := rfl
            simp only [ref15_Valid.l1, hd, hg, hw, hp, decide_true, if_true, and_self, orS, Bool.false_eq_true, if_false, Bool.or_false, Option.bind_some, ← badG_eq])
          (fun k i hi hd hp hg hw1 hg1 hw => by
            simp only [ref15_Valid.l1, hd, hp, hg, hw1, hg1, hw, decide_true, if_true, and_self, orS, Option.bind_some, badG_eq, Bool.or_assoc, id])
        have e : G.all (fun x => !(!okG x)) = G.all okG := by congr 1; funext x; simp
        rw [e, List.map_id] at this
        exact this
      have c1 : decide ((M.length : Int) > 400) = false := by simpa using h1'
      have c2 : decide ((G.length : Int) > 100) = false := by simpa using h2'
      rw [a0, b0, c1, c2]
      simp only [h1, h2, decide_true, Bool.true_and]
      cases M.all (okQ ∘ qR) <;> cases G.all okG <;> cases rising (M.map (Q.l ∘ qR)) <;> cases rising G <;> rfl
    · have h2' : (G.length : Int) > 100 := by omega
      have c1 : decide ((M.length : Int) > 400) = false := by simpa using h1'
      simp [c1, h2, h2']
  · have h1' : (M.length : Int) > 400 := by omega
    simp [h1, h1']
end Go.Cen
