/- EVENT: bytes; the reference. -/
import Derived.Test.YthdoklobbcedcabHEvB
import Derived.Test.YthdoklobbcedcabHShaG
set_option linter.unusedVariables false
set_option linter.unusedSimpArgs false
namespace Go.Cen
def putE (e : ApiEvent) : List Int := numL (clampN e.Kind) ++ (partsE e).flatMap bytD
def putR (e : ApiEvent) : ByteArray × Bool := if validE e then (strOfNums (putE e), true) else (⟨#[]⟩, false)
theorem event_Put_eq {e : ApiEvent} (h : okE e) : event_Put e = some (putR e) := by
  have hp := parts_ok h
  have hl := parts_len e
  have hc := clampN_len e.Kind
  unfold event_Put putR
  rw [event_Valid_eq h]
  cases validE e with
  | false => rfl
  | true =>
    simp only [Option.bind_some, Bool.not_true, Bool.false_eq_true, if_false, wire_Num_eq, parts_eq, if_true]
    rw [put_l0 _ hp (by omega) _ (by omega)]
    rfl
theorem ref03_Valid_eq (s : ByteArray) (h : s.size ≤ 100000) : ref03_Valid s = some (nmOk s) := by
  have := ref03_Valid_str (l := byts s) (byts_isB s) (by rw [byts_len]; exact h)
  rwa [strOfNums_byts] at this
def tells5 (k : Int) : List Bool := if k = 0 ∨ k = 4 ∨ k = 5 then [true, true, false, false, false] else if k = 1 then [true, false, false, true, false] else if k = 2 then [true, false, true, true, true]
  else if k = 3 then [true, false, true, false, false] else if k = 6 then [true, false, false, false, false] else if k = 7 then [false, false, true, false, false] else [false, false, false, false, false]
theorem tells_eq (k : Int) : ref05_tells k = some (tells5 k) := by
  unfold ref05_tells tells5
  rcases kinds k with k | k | k | k | k | k | k | k | ⟨k0, k4, k5, k1, k2, k3, k6, k7⟩
  all_goals first
    | (subst k; rfl)
    | simp [k0, k1, k2, k3, k4, k5, k6, k7]
theorem gtB (a b c d e : Bool) : gt [a, b, c, d, e] 0 = a ∧ gt [a, b, c, d, e] 1 = b ∧ gt [a, b, c, d, e] 2 = c ∧ gt [a, b, c, d, e] 3 = d ∧ gt [a, b, c, d, e] 4 = e := ⟨rfl, rfl, rfl, rfl, rfl⟩
set_option maxHeartbeats 2000000 in
theorem ref05_Valid_eq {e : ApiEvent} (h : okE e) : ref05_Valid e = some (validE e) := by
  unfold ref05_Valid
  rw [tells_eq, ref03_Valid_eq _ h.1]
  rcases kinds e.Kind with k | k | k | k | k | k | k | k | ⟨k0, k4, k5, k1, k2, k3, k6, k7⟩
  case inr.inr.inr.inr.inr.inr.inr.inr =>
    have : (if decide (e.Kind < 0) = true then some true else some (decide (e.Kind > 7))) = some true := by
      by_cases q : e.Kind < 0
      · simp [q]
      · have : e.Kind > 7 := by omega
        simp [this]
    rw [this]
    simp [validE, k0, k1, k2, k3, k4, k5, k6, k7]
  all_goals
    have hz : eqA e.Sum ([0, 0, 0, 0, 0, 0, 0, 0, 0, 0, 0, 0, 0, 0, 0, 0, 0, 0, 0, 0, 0, 0, 0, 0, 0, 0, 0, 0, 0, 0, 0, 0] : List Int) = noD e.Sum := rfl
    simp [k, tells5, validE, (gtB _ _ _ _ _).1, (gtB _ _ _ _ _).2.1, (gtB _ _ _ _ _).2.2.1, (gtB _ _ _ _ _).2.2.2.1, (gtB _ _ _ _ _).2.2.2.2, hz]
    have r1 : ∀ a b x : Int, (if a ≤ x then if x ≤ b then some true else some false else some false) = some (decide (a ≤ x) && decide (x ≤ b)) := fun a b x => by
      by_cases q : a ≤ x <;> by_cases q' : x ≤ b <;> simp [q, q']
    have r2 : ∀ b : Bool, (if b = true then some true else some false) = some b := fun b => by cases b <;> rfl
    have e1 : seq e.Name (⟨#[]⟩ : ByteArray) = noS e.Name := rfl
    simp only [r1, r2, Option.bind_some, e1]
    have e2 : (decide (1 ≤ e.ID) && decide (e.ID ≤ 1099511627776)) = idOk e.ID := rfl
    have e3 : (decide (0 ≤ e.Time) && decide (e.Time ≤ 1099511627776)) = timeOk e.Time := rfl
    have e4 : (decide (0 ≤ e.Len) && decide (e.Len ≤ 600)) = lenOk 0 e.Len := rfl
    have e5 : (decide (1 ≤ e.Len) && decide (e.Len ≤ 600)) = lenOk 1 e.Len := rfl
    (try simp only [e2, e3, e4, e5])
    clear e2 e3 e4 e5 r1 r2 e1
    generalize lenOk 1 e.Len = b1
    generalize lenOk 0 e.Len = b0
    generalize timeOk e.Time = bt
    generalize idOk e.ID = bi
    generalize noS e.Name = bs
    generalize nmOk e.Name = bn
    by_cases hT : e.Time = 0 <;> by_cases hL : e.Len = 0 <;> by_cases hI : e.ID = 0
    all_goals
      cases bs <;> cases bi <;> simp [hT, hL, hI]
    all_goals
      cases bn <;> cases bt <;> cases b0 <;> cases b1 <;> (try simp)
theorem ref04_Text_eq (s : ByteArray) (h : s.size ≤ 100000) : ref04_Text s = some (strOfNums (numL (clampN (s.size : Int)) ++ byts s)) := by
  have hL := LIM_val
  have := clampN_len (s.size : Int)
  unfold ref04_Text
  rw [ref04_Num_eq]
  simp only [Option.bind_some, strOfNums_size]
  rw [if_pos (by omega)]
  congr 1
  rw [← strOfNums_append, strOfNums_byts]
theorem ref04_Sum_eq {d : List Int} (h : d.length = 32) : ref04_Sum d = some (strOfNums d) := by
  unfold ref04_Sum
  rw [ref_bytes h]; rfl
theorem ref05_Put_eq {e : ApiEvent} (h : okE e) : ref05_Put e = some (putR e) := by
  have hL := LIM_val
  have c0 := clampN_len e.Kind
  have c1 := clampN_len e.ID
  have c2 := clampN_len e.Time
  have c3 := clampN_len e.Len
  have c4 := clampN_len (e.Name.size : Int)
  have hn := h.1
  have h32 := h.2.1
  have hb := byts_len e.Name
  unfold ref05_Put putR
  rw [ref05_Valid_eq h]
  cases hv : validE e with
  | false => rfl
  | true =>
    simp only [Option.bind_some, Bool.not_true, Bool.false_eq_true, if_false, if_true, tells_eq, ref04_Num_eq, ref04_Text_eq _ h.1, ref04_Sum_eq h.2.1, putE]
    rcases kinds e.Kind with k | k | k | k | k | k | k | k | ⟨k0, k4, k5, k1, k2, k3, k6, k7⟩
    case inr.inr.inr.inr.inr.inr.inr.inr => simp [validE, k0, k1, k2, k3, k4, k5, k6, k7] at hv
    all_goals
      have hq : ∀ (xs ys : List Int), xs.length ≤ 1000 → ys.length ≤ 100100 → (strOfNums xs).size + (strOfNums ys).size ≤ LIM := fun xs ys h1 h2 => by rw [strOfNums_size, strOfNums_size]; omega
      rw [k] at c0
      simp only [k, tells5, partsE, (gtB _ _ _ _ _).1, (gtB _ _ _ _ _).2.1, (gtB _ _ _ _ _).2.2.1, (gtB _ _ _ _ _).2.2.2.1, (gtB _ _ _ _ _).2.2.2.2, if_true, Option.bind_some, Int.reduceEq, or_true, true_or, or_false, false_or, or_self, if_false, Bool.false_eq_true, reduceCtorEq]
      simp only [strOfNums_append, strOfNums_size, List.length_append, hb, h32]
      repeat (first | rw [if_pos (by omega)] | simp only [Option.bind_some, strOfNums_append, strOfNums_size, List.length_append, hb, h32])
      simp [bytD]
end Go.Cen
