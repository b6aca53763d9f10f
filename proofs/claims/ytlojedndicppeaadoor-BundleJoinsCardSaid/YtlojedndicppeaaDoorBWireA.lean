/- WIRE: numbers as bytes, both ways. -/
import Derived.Test.YtlojedndicppeaaDoorPy
import Derived.Test.YtlojedndicppeaaDoorCenMa
import Derived.Test.YtlojedndicppeaaDoorBUtf8A
import Derived.Test.YtlojedndicppeaaDoorCenPl
set_option linter.unusedVariables false
set_option linter.unusedSimpArgs false
namespace Go.Cen
/-- a number's bytes -/
def numL (n : Nat) : List Int := if n < 128 then [(n : Int)] else ((n % 128 + 128 : Nat) : Int) :: numL (n / 128)
termination_by n
decreasing_by omega
theorem numL_lt {n : Nat} (h : n < 128) : numL n = [(n : Int)] := by rw [numL, if_pos h]
theorem numL_ge {n : Nat} (h : ¬ n < 128) : numL n = ((n % 128 + 128 : Nat) : Int) :: numL (n / 128) := by rw [numL, if_neg h]
theorem numL_isB (n : Nat) : isB (numL n) := by
  induction n using Nat.strongRecOn with
  | _ n ih =>
    intro x hx
    by_cases h : n < 128
    · rw [numL_lt h] at hx; simp at hx; omega
    · rw [numL_ge h] at hx
      rcases List.mem_cons.1 hx with rfl | hx
      · omega
      · exact ih (n / 128) (by omega) x hx
theorem numL_ne (n : Nat) : numL n ≠ [] := by
  by_cases h : n < 128
  · rw [numL_lt h]; simp
  · rw [numL_ge h]; simp
theorem numL_pos (n : Nat) : 1 ≤ (numL n).length := by
  have := numL_ne n
  cases h : numL n with
  | nil => exact absurd h this
  | cons a r => simp
/-- how long a number is -/
theorem numL_len : ∀ (f n : Nat), n < 128 ^ (f + 1) → (numL n).length ≤ f + 1
  | 0, n, h => by
    rw [numL_lt (by simpa using h)]; simp
  | f + 1, n, h => by
    by_cases h1 : n < 128
    · rw [numL_lt h1]; simp
    · rw [numL_ge h1]
      have := numL_len f (n / 128) (Nat.div_lt_of_lt_mul (by rw [Nat.pow_succ] at h; omega))
      simp only [List.length_cons]; omega
/-- the number that bytes begin with -/
def decN : Nat → List Int → Option (Nat × List Int)
  | 0, _ => none
  | _ + 1, [] => none
  | f + 1, b :: r => if b < 128 then some (b.toNat, r) else match decN f r with
    | some (n, r') => if n = 0 then none else some (b.toNat - 128 + 128 * n, r')
    | none => none
theorem decN_numL : ∀ (f n : Nat) (r : List Int), n < 128 ^ (f + 1) → decN (f + 1) (numL n ++ r) = some (n, r)
  | 0, n, r, h => by
    rw [numL_lt (by simpa using h)]
    have : ((n : Int)) < 128 := by have : n < 128 := by simpa using h
                                   omega
    simp [decN, this]
  | f + 1, n, r, h => by
    by_cases h1 : n < 128
    · rw [numL_lt h1]
      have : ((n : Int)) < 128 := by omega
      simp [decN, this]
    · rw [numL_ge h1]
      have h2 : ¬ (((n % 128 + 128 : Nat) : Int) < 128) := by omega
      have h3 := decN_numL f (n / 128) r (Nat.div_lt_of_lt_mul (by rw [Nat.pow_succ] at h; omega))
      have h4 : ¬ n / 128 = 0 := by omega
      simp only [List.cons_append, decN, h2, if_false, h3, h4, Int.toNat_natCast]
      congr 2
      omega
theorem decN_inv : ∀ (f : Nat) (l : List Int) (n : Nat) (r : List Int), isB l → decN f l = some (n, r) → l = numL n ++ r ∧ n < 128 ^ f
  | 0, l, n, r, _, h => by simp [decN] at h
  | f + 1, [], n, r, _, h => by simp [decN] at h
  | f + 1, b :: l, n, r, hl, h => by
    have hb := hl b (by simp)
    have hp : 128 ^ (f + 1) = 128 * 128 ^ f := by rw [Nat.pow_succ, Nat.mul_comm]
    have hp0 : 0 < 128 ^ f := Nat.pow_pos (by decide)
    simp only [decN] at h
    by_cases h1 : b < 128
    · rw [if_pos h1] at h
      cases h
      refine ⟨?_, by omega⟩
      rw [numL_lt (by omega)]
      simp; omega
    · rw [if_neg h1] at h
      cases h2 : decN f l with
      | none => rw [h2] at h; cases h
      | some p =>
        obtain ⟨n', r'⟩ := p
        rw [h2] at h
        simp only at h
        split at h
        · cases h
        · rename_i hn
          cases h
          obtain ⟨e, hlt⟩ := decN_inv f l n' r (fun x hx => hl x (by simp [hx])) h2
          refine ⟨?_, by omega⟩
          rw [numL_ge (by omega), e]
          have e1 : (b.toNat - 128 + 128 * n') / 128 = n' := by omega
          have e2 : (((b.toNat - 128 + 128 * n') % 128 + 128 : Nat) : Int) = b := by omega
          rw [e1, e2]; rfl
/-- at most 2^50 -/
def getN (l : List Int) : Option (Nat × List Int) := match decN 8 l with
  | some (n, r) => if n ≤ 1125899906842624 then some (n, r) else none
  | none => none
theorem getN_numL (n : Nat) (r : List Int) (h : n ≤ 1125899906842624) : getN (numL n ++ r) = some (n, r) := by
  unfold getN
  rw [decN_numL 7 n r (by omega)]
  simp [h]
theorem getN_inv {l : List Int} {n : Nat} {r : List Int} (hl : isB l) (h : getN l = some (n, r)) : l = numL n ++ r ∧ n ≤ 1125899906842624 := by
  unfold getN at h
  cases h2 : decN 8 l with
  | none => rw [h2] at h; cases h
  | some p =>
    obtain ⟨n', r'⟩ := p
    rw [h2] at h
    simp only at h
    by_cases hn : n' ≤ 1125899906842624
    · rw [if_pos hn] at h
      simp only [Option.some.injEq, Prod.mk.injEq] at h
      obtain ⟨rfl, rfl⟩ := h
      exact ⟨(decN_inv 8 l _ _ hl h2).1, hn⟩
    · rw [if_neg hn] at h; cases h
theorem numL_inj {n m : Nat} {r s : List Int} (hn : n ≤ 1125899906842624) (hm : m ≤ 1125899906842624) (h : numL n ++ r = numL m ++ s) : n = m ∧ r = s := by
  have h1 := getN_numL n r hn
  rw [h, getN_numL m s hm] at h1
  simpa [eq_comm] using h1
def clampN (a : Int) : Nat := (if 1125899906842624 < (if 0 > a then 0 else a) then 1125899906842624 else if 0 > a then 0 else a).toNat
theorem clampN_le (a : Int) : clampN a ≤ 1125899906842624 := by unfold clampN; split <;> (try split) <;> omega
theorem clampN_id {a : Int} (h0 : 0 ≤ a) (h : a ≤ 1125899906842624) : (clampN a : Int) = a := by
  have h1 : (if 0 > a then 0 else a) = a := if_neg (by omega)
  unfold clampN
  rw [h1, if_neg (by omega)]; omega
theorem or128 : ∀ m < 256, (m ||| 128) = m % 128 + 128 := by decide +kernel
theorem LIM_ge : 1000000000 ≤ LIM := by decide +kernel
theorem wNum_l0 : ∀ (f k n : Nat) (xs : List Int), n < 128 ^ (f + 1) → f < k → xs.length + f + 5 ≤ LIM → ∃ (m : Nat) (ys : List Int), wire_Num.l0 k (n : Int) xs = some ((m : Int), xs ++ ys) ∧ m < 128 ∧ ys ++ [(m : Int)] = numL n ∧ ys.length ≤ f
  | f, 0, n, xs, h, hk, _ => by omega
  | 0, k + 1, n, xs, h, hk, hL => by
    have h1 : n < 128 := by simpa using h
    refine ⟨n, [], ?_, h1, by rw [numL_lt h1]; rfl, by simp⟩
    have : decide ((n : Int) ≥ 128) = false := by simp; omega
    simp only [wire_Num.l0, this, List.append_nil]
    rfl
  | f + 1, k + 1, n, xs, h, hk, hL => by
    by_cases h1 : n < 128
    · refine ⟨n, [], ?_, h1, by rw [numL_lt h1]; rfl, by simp⟩
      have : decide ((n : Int) ≥ 128) = false := by simp; omega
      simp only [wire_Num.l0, this, List.append_nil]
      rfl
    · have hd : decide ((n : Int) ≥ 128) = true := by simp; omega
      have e1 : bOr .u8 (wu8 (n : Int)) 128 = ((n % 128 + 128 : Nat) : Int) := by
        have e2 : wu8 (n : Int) = ((n % 256 : Nat) : Int) := by rw [wu8_eq]; omega
        have e3 := bOr_nat (k := .u8) rfl (n % 256) 128 (by show _ < 256; omega) (by show _ < 256; omega)
        rw [e2]
        refine e3.trans ?_
        have : ((n % 256) ||| 128) = n % 128 + 128 := by
          have h8 := or128 (n % 256) (by omega)
          omega
        rw [this]
      have e2 : bShr .i64 (n : Int) 7 = ((n / 128 : Nat) : Int) := by
        have := bShr_eq (k := .i64) (x := (n : Int)) (n := 7) (by decide)
        refine Eq.trans this ?_
        norm_cast
      obtain ⟨m, ys, g1, g2, g3, g4⟩ := wNum_l0 f k (n / 128) (xs ++ [((n % 128 + 128 : Nat) : Int)]) (Nat.div_lt_of_lt_mul (by rw [Nat.pow_succ] at h; omega)) (by omega) (by simp; omega)
      refine ⟨m, ((n % 128 + 128 : Nat) : Int) :: ys, ?_, g2, ?_, by simp; omega⟩
      · have hg : xs.length + [((n % 128 + 128 : Nat) : Int)].length ≤ LIM := by simp; omega
        simp only [wire_Num.l0, hd, if_true, e1]
        rw [if_pos hg, e2, g1]
        simp
      · rw [numL_ge h1, List.cons_append, g3]
theorem wire_Num_eq (a : Int) : wire_Num a = some (strOfNums (numL (clampN a))) := by
  have hL := LIM_ge
  have hc := clampN_le a
  have e : (if 1125899906842624 < (if 0 > a then 0 else a) then 1125899906842624 else if 0 > a then 0 else a) = ((clampN a : Nat) : Int) := by
    unfold clampN; split <;> (try split) <;> omega
  obtain ⟨k, hk, hk2⟩ := FU_succ 100 (by omega)
  obtain ⟨m, ys, g1, g2, g3, g4⟩ := wNum_l0 7 FU (clampN a) [] (by omega) (by rw [hk]; omega) (by simp; omega)
  have e2 : wu8 (m : Int) = (m : Int) := by rw [wu8_eq]; omega
  unfold wire_Num
  rw [e, g1]
  have hg : (([] : List Int) ++ ys).length + [(m : Int)].length ≤ LIM := by simp; omega
  simp only [Option.bind_some, e2]
  rw [if_pos hg]
  simp only [List.nil_append, g3]
theorem rNum_l0 : ∀ (f k n : Nat) (xs : List Int), n < 128 ^ (f + 1) → n ≤ 1125899906842624 → f < k → xs.length + f + 5 ≤ LIM → ∃ (m : Nat) (ys : List Int), ref04_Num.l0 k (n : Int) xs = some ((m : Int), xs ++ ys) ∧ m < 128 ∧ ys ++ [(m : Int)] = numL n ∧ ys.length ≤ f
  | f, 0, n, xs, h, _, hk, _ => by omega
  | 0, k + 1, n, xs, h, _, hk, hL => by
    have h1 : n < 128 := by simpa using h
    refine ⟨n, [], ?_, h1, by rw [numL_lt h1]; rfl, by simp⟩
    have : decide ((n : Int) ≥ 128) = false := by simp; omega
    simp only [ref04_Num.l0, this, List.append_nil]
    rfl
  | f + 1, k + 1, n, xs, h, h50, hk, hL => by
    by_cases h1 : n < 128
    · refine ⟨n, [], ?_, h1, by rw [numL_lt h1]; rfl, by simp⟩
      have : decide ((n : Int) ≥ 128) = false := by simp; omega
      simp only [ref04_Num.l0, this, List.append_nil]
      rfl
    · have hd : decide ((n : Int) ≥ 128) = true := by simp; omega
      have e0 : (n : Int).tmod 128 = ((n % 128 : Nat) : Int) := by rw [Int.tmod_eq_emod_of_nonneg (by omega)]; omega
      have e1 : wu8 (wi64 ((n : Int).tmod 128 + 128)) = ((n % 128 + 128 : Nat) : Int) := by
        rw [e0, wi64_id (by omega), wu8_eq]; omega
      have e2 : wi64 ((n : Int).tdiv 128) = ((n / 128 : Nat) : Int) := by
        rw [Int.tdiv_eq_ediv_of_nonneg (by omega), wi64_id (by omega)]; omega
      obtain ⟨m, ys, g1, g2, g3, g4⟩ := rNum_l0 f k (n / 128) (xs ++ [((n % 128 + 128 : Nat) : Int)]) (Nat.div_lt_of_lt_mul (by rw [Nat.pow_succ] at h; omega)) (by omega) (by omega) (by simp; omega)
      refine ⟨m, ((n % 128 + 128 : Nat) : Int) :: ys, ?_, g2, ?_, by simp; omega⟩
      · have hg : xs.length + [((n % 128 + 128 : Nat) : Int)].length ≤ LIM := by simp; omega
        simp only [ref04_Num.l0, hd, if_true, e1]
        rw [if_pos hg, e2, g1]
        simp
      · rw [numL_ge h1, List.cons_append, g3]
theorem ref04_Num_eq (a : Int) : ref04_Num a = some (strOfNums (numL (clampN a))) := by
  have hL := LIM_ge
  have hc := clampN_le a
  have e : (if 1125899906842624 < (if 0 > a then 0 else a) then 1125899906842624 else if 0 > a then 0 else a) = ((clampN a : Nat) : Int) := by
    unfold clampN; split <;> (try split) <;> omega
  obtain ⟨k, hk, hk2⟩ := FU_succ 100 (by omega)
  obtain ⟨m, ys, g1, g2, g3, g4⟩ := rNum_l0 7 FU (clampN a) [] (by omega) hc (by rw [hk]; omega) (by simp; omega)
  have e2 : wu8 (m : Int) = (m : Int) := by rw [wu8_eq]; omega
  unfold ref04_Num
  rw [e, g1]
  have hg : (([] : List Int) ++ ys).length + [(m : Int)].length ≤ LIM := by simp; omega
  simp only [Option.bind_some, e2]
  rw [if_pos hg]
  simp only [List.nil_append, g3]
end Go.Cen

/- EVENT: whether an event may be, and its bytes. -/
set_option linter.unusedVariables false
set_option linter.unusedSimpArgs false
namespace Go.Cen
def z32 : List Int := List.replicate 32 0
def nmOk (s : ByteArray) : Bool := validN (byts s)
theorem name_Valid_eq (s : ByteArray) (h : s.size ≤ 100000) : name_Valid s = some (nmOk s) := by
  have := name_Valid_str (l := byts s) (byts_isB s) (by rw [byts_len]; exact Nat.le_trans h (by decide))
  rwa [strOfNums_byts] at this
def timeOk (t : Int) : Bool := decide (0 ≤ t) && decide (t ≤ 1099511627776)
def idOk (i : Int) : Bool := decide (1 ≤ i) && decide (i ≤ 1099511627776)
def lenOk (lo n : Int) : Bool := decide (lo ≤ n) && decide (n ≤ 600)
def noS (s : ByteArray) : Bool := seq s (⟨#[]⟩ : ByteArray)
def noD (d : List Int) : Bool := eqA d z32
theorem within_eq (a b c : Int) : event_within a b c = some (decide (b ≤ a) && decide (a ≤ c)) := by
  unfold event_within
  by_cases h : b ≤ a
  · simp [h]
  · simp [h]
/-- what an event tells -/
def partsE (e : ApiEvent) : List Dyn72 :=
  if e.Kind = 0 ∨ e.Kind = 4 ∨ e.Kind = 5 then [.i94 e.ID, .i90 e.Name] else if e.Kind = 1 then [.i94 e.ID, .i94 e.Len] else if e.Kind = 2 then [.i94 e.ID, .i94 e.Time, .i94 e.Len, .i95 e.Sum]
  else if e.Kind = 3 then [.i94 e.ID, .i94 e.Time] else if e.Kind = 6 then [.i94 e.ID] else if e.Kind = 7 then [.i94 e.Time] else []
theorem parts_eq (e : ApiEvent) : event_parts e = some (partsE e) := by
  unfold event_parts partsE
  by_cases h0 : e.Kind = 0
  · simp [h0]
  · by_cases h4 : e.Kind = 4
    · simp [h4]
    · by_cases h5 : e.Kind = 5
      · simp [h5]
      · by_cases h1 : e.Kind = 1
        · simp [h1]
        · by_cases h2 : e.Kind = 2
          · simp [h2]
          · by_cases h3 : e.Kind = 3
            · simp [h3]
            · by_cases h6 : e.Kind = 6
              · simp [h6]
              · by_cases h7 : e.Kind = 7
                · simp [h7]
                · simp [h0, h1, h2, h3, h4, h5, h6, h7]
def okD (d : Dyn72) : Prop := match d with | .nil => False | .i94 _ => True | .i90 s => s.size ≤ 100000 | .i95 d => d.length = 32 ∧ isB d
def okE (e : ApiEvent) : Prop := e.Name.size ≤ 100000 ∧ e.Sum.length = 32 ∧ isB e.Sum
theorem parts_ok {e : ApiEvent} (h : okE e) : ∀ d ∈ partsE e, okD d := by
  intro d hd
  unfold partsE at hd
  repeat' split at hd
  all_goals simp at hd
  all_goals (try (rcases hd with rfl | rfl | rfl | rfl) <;> (try trivial) <;> first | exact h.1 | exact h.2)
  all_goals (try (rcases hd with rfl | rfl) <;> (try trivial) <;> first | exact h.1 | exact h.2)
  all_goals (try subst hd; trivial)
theorem parts_len (e : ApiEvent) : (partsE e).length ≤ 4 := by
  unfold partsE
  repeat' split
  all_goals simp
def nums : List Dyn72 → List Int
  | [] => []
  | .i94 a :: r => a :: nums r
  | _ :: r => nums r
def upd : List Dyn72 → ApiEvent → ApiEvent
  | [], e => e
  | .i90 s :: r, e => upd r { e with Name := s }
  | .i95 d :: r, e => upd r { e with Sum := d }
  | _ :: r, e => upd r e
theorem of_l0 (l : List Dyn72) (hl : ∀ d ∈ l, okD d) (hn : l.length ≤ 1000) (e : ApiEvent) : event_of.l0 l FU [] 0 e = some (nums l, upd l e) := by
  have hL := LIM_val
  have := loopI l (by omega) (fun k i (s : List Int × ApiEvent) => event_of.l0 l k s.1 i s.2) (fun r s => some (s.1 ++ nums r, upd r s.2)) (fun r s => s.1.length + r.length ≤ 1000)
    (fun k s hd hI => by simp only [event_of.l0, hd, nums, upd, List.append_nil]; rfl)
    (fun k i x r s hi hlen hm hd hg hx hw hI ih => by
      have hok := hl x hm
      simp only [List.length_cons] at hI
      simp only [event_of.l0, hd, if_true, hg, and_self, hx]
      cases x with
      | nil => exact hok.elim
      | i94 a =>
        have hq : s.1.length + ([a] : List Int).length ≤ LIM := by simp only [List.length_cons, List.length_nil]; omega
        simp only [hq, if_true, Option.bind_some, hw]
        have := ih (s.1 ++ [a], s.2) (by simp only [List.length_append, List.length_cons, List.length_nil]; omega)
        simp only at this
        rw [this]; simp [nums, upd]
      | i90 a =>
        simp only [Option.bind_some, hw]
        have := ih (s.1, { s.2 with Name := a }) (by simp only; omega)
        simp only at this
        rw [this]; simp [nums, upd]
      | i95 a =>
        simp only
        rw [if_pos hok.1]
        simp only [Option.bind_some, hw]
        have := ih (s.1, { s.2 with Sum := a }) (by simp only; omega)
        simp only at this
        rw [this]; simp [nums, upd]) ([], e) (by simpa using hn)
  simpa using this
/-- the last name among parts -/
def namedL : List Dyn72 → Bool → Bool
  | [], b => b
  | .i90 s :: r, _ => namedL r (nmOk s)
  | _ :: r, b => namedL r b
theorem valid_l0 (l : List Dyn72) (hl : ∀ d ∈ l, okD d) (hn : l.length ≤ 1000) (b : Bool) : event_Valid.l0 l FU b 0 = some (namedL l b) := by
  have := loopG l (by omega) (fun k i (s : Bool) => event_Valid.l0 l k s i) (fun r s => some (namedL r s))
    (fun k s hd => by simp only [event_Valid.l0, hd, namedL]; rfl)
    (fun k i x r s hi hlen hd hg hx hw ih => by
      have hm : x ∈ l := by rw [← hx, gt_nat l i hi]; exact List.getElem_mem _
      have hok := hl x hm
      simp only [event_Valid.l0, hd, if_true, hg, and_self, hx]
      cases x with
      | nil => exact hok.elim
      | i94 a => simp only [Option.bind_some, hw]; rw [ih]; simp [namedL]
      | i90 a => simp only [name_Valid_eq a hok, Option.bind_some, hw]; rw [ih]; simp [namedL]
      | i95 a =>
        simp only
        rw [if_pos hok.1]
        simp only [Option.bind_some, hw]; rw [ih]; simp [namedL]) b
  exact this
def bytD : Dyn72 → List Int
  | .nil => []
  | .i94 a => numL (clampN a)
  | .i90 s => numL (clampN (s.size : Int)) ++ byts s
  | .i95 d => d
theorem clampN_len (a : Int) : (numL (clampN a)).length ≤ 8 := numL_len 7 (clampN a) (by have := clampN_le a; omega)
theorem bytD_isB {d : Dyn72} (h : okD d) : isB (bytD d) := by
  cases d with
  | nil => exact isB_nil
  | i94 a => exact numL_isB _
  | i90 s => exact isB_app (numL_isB _) (byts_isB s)
  | i95 d => exact h.2
theorem bytD_len {d : Dyn72} (h : okD d) : (bytD d).length ≤ 100008 := by
  cases d with
  | nil => simp [bytD]
  | i94 a => have := clampN_len a; simp only [bytD]; omega
  | i90 s =>
    have h1 := clampN_len (s.size : Int)
    have h2 : s.size ≤ 100000 := h
    simp only [bytD, List.length_append, byts_len]; omega
  | i95 d => have := h.1; simp only [bytD]; omega
theorem wire_Text_eq (s : ByteArray) (h : s.size ≤ 100000) : wire_Text s = some (strOfNums (numL (clampN (s.size : Int)) ++ byts s)) := by
  have hL := LIM_val
  have := clampN_len (s.size : Int)
  unfold wire_Text
  rw [wire_Num_eq]
  simp only [Option.bind_some, strOfNums_size]
  rw [if_pos (by omega)]
  congr 1
  rw [← strOfNums_append, strOfNums_byts]
theorem put_l0 (l : List Dyn72) (hl : ∀ d ∈ l, okD d) (hn : l.length ≤ 10) (xs : List Int) (hx : xs.length ≤ 100) : event_Put.l0 l FU (strOfNums xs) 0 = some (strOfNums (xs ++ l.flatMap bytD)) := by
  have hL := LIM_val
  have := loopI l (by omega) (fun k i (s : List Int) => event_Put.l0 l k (strOfNums s) i) (fun r s => some (strOfNums (s ++ r.flatMap bytD))) (fun r s => s.length + 100008 * r.length ≤ 10000000)
    (fun k s hd hI => by simp only [event_Put.l0, hd, List.flatMap_nil, List.append_nil]; rfl)
    (fun k i x r s hi hlen hm hd hg hx hw hI ih => by
      have hok := hl x hm
      have hb := bytD_len hok
      simp only [List.length_cons] at hI
      simp only [event_Put.l0, hd, if_true, hg, and_self, hx]
      have step : event_Put.l0 l k (strOfNums s ++ strOfNums (bytD x)) (((i + 1 : Nat)) : Int) = some (strOfNums (s ++ (x :: r).flatMap bytD)) := by
        rw [strOfNums_append, ih (s ++ bytD x) (by rw [List.length_append]; omega)]
        simp
      cases x with
      | nil => exact hok.elim
      | i94 a =>
        have hq : s.length + (numL (clampN a)).length ≤ LIM := by simp only [bytD] at hb; omega
        simp only [event_number_put, wire_Num_eq, Option.bind_some, strOfNums_size, hq, if_true, hw]
        exact step
      | i90 a =>
        have hq : s.length + (numL (clampN (a.size : Int)) ++ byts a).length ≤ LIM := by simp only [bytD] at hb; omega
        simp only [event_text_put, wire_Text_eq a hok, Option.bind_some, strOfNums_size, hq, if_true, hw]
        exact step
      | i95 a =>
        have hq : s.length + a.length ≤ LIM := by simp only [bytD] at hb; omega
        have h32 : a.length = 32 := hok.1
        simp only [h32, if_true, event_sum_put, wire_Sum, Option.bind_some, strOfNums_size]
        rw [h32] at hq
        simp only [hq, if_true, Option.bind_some, hw]
        exact step) xs (by omega)
  exact this
def validE (e : ApiEvent) : Bool :=
  if e.Kind = 0 ∨ e.Kind = 4 ∨ e.Kind = 5 then idOk e.ID && (nmOk e.Name && ((e.Time == 0) && ((e.Len == 0) && noD e.Sum)))
  else if e.Kind = 1 then idOk e.ID && (noS e.Name && ((e.Time == 0) && (lenOk 1 e.Len && noD e.Sum)))
  else if e.Kind = 2 then idOk e.ID && (noS e.Name && (timeOk e.Time && lenOk 0 e.Len))
  else if e.Kind = 3 then idOk e.ID && (noS e.Name && (timeOk e.Time && ((e.Len == 0) && noD e.Sum)))
  else if e.Kind = 6 then idOk e.ID && (noS e.Name && ((e.Time == 0) && ((e.Len == 0) && noD e.Sum)))
  else if e.Kind = 7 then (e.ID == 0) && (noS e.Name && (timeOk e.Time && ((e.Len == 0) && noD e.Sum)))
  else false
theorem seq_symm (a b : ByteArray) : seq a b = seq b a := by rw [Bool.eq_iff_iff, seq_iff, seq_iff]; exact eq_comm
theorem eqA_symm (a b : List Int) : eqA a b = eqA b a := by rw [Bool.eq_iff_iff, eqA_iff, eqA_iff]; exact eq_comm
theorem seq_refl (s : ByteArray) : seq s s = true := (seq_iff s s).2 rfl
theorem eqA_refl (s : List Int) : eqA s s = true := (eqA_iff s s).2 rfl
end Go.Cen

/- EVENT: whether an event may be, and its bytes: both sides. -/
set_option linter.unusedVariables false
set_option linter.unusedSimpArgs false
namespace Go.Cen
def ofE (e : ApiEvent) : ApiEvent :=
  if e.Kind = 0 ∨ e.Kind = 4 ∨ e.Kind = 5 then ⟨e.Kind, e.ID, e.Name, 0, 0, z32⟩ else if e.Kind = 1 then ⟨e.Kind, e.ID, ⟨#[]⟩, 0, e.Len, z32⟩ else if e.Kind = 2 then ⟨e.Kind, e.ID, ⟨#[]⟩, e.Time, e.Len, e.Sum⟩
  else if e.Kind = 3 then ⟨e.Kind, e.ID, ⟨#[]⟩, e.Time, 0, z32⟩ else if e.Kind = 6 then ⟨e.Kind, e.ID, ⟨#[]⟩, 0, 0, z32⟩ else ⟨e.Kind, 0, ⟨#[]⟩, e.Time, 0, z32⟩
theorem of_l0' {k : Int} {l : List Dyn72} (hl : ∀ d ∈ l, okD d) (hn : l.length ≤ 1000) : event_of.l0 l FU ([] : List Int) 0 (ApiEvent.mk k 0 (⟨#[]⟩ : ByteArray) 0 0 (List.replicate 32 (0 : Int))) = some (nums l, upd l ⟨k, 0, ⟨#[]⟩, 0, 0, z32⟩) := of_l0 l hl hn _
theorem gt2 (a b c : Int) : gt [a, b, c] 2 = c := rfl
theorem gt1 (a b : Int) (r : List Int) : gt (a :: b :: r) 1 = b := rfl
theorem gt0' (a : Int) (r : List Int) : gt (a :: r) 0 = a := rfl
theorem kinds (k : Int) : k = 0 ∨ k = 4 ∨ k = 5 ∨ k = 1 ∨ k = 2 ∨ k = 3 ∨ k = 6 ∨ k = 7 ∨ (k ≠ 0 ∧ k ≠ 4 ∧ k ≠ 5 ∧ k ≠ 1 ∧ k ≠ 2 ∧ k ≠ 3 ∧ k ≠ 6 ∧ k ≠ 7) := by omega
theorem of_eq {e : ApiEvent} (h : okE e) (hk : partsE e ≠ []) : event_of e.Kind (partsE e) = some (ofE e) := by
  have hp := parts_ok h
  have hl := parts_len e
  unfold event_of
  rw [of_l0' hp (by omega)]
  rcases kinds e.Kind with k | k | k | k | k | k | k | k | ⟨k0, k4, k5, k1, k2, k3, k6, k7⟩
  all_goals first
    | (simp [partsE, ofE, k, nums, upd, gt2, gt1, gt0']; done)
    | (exfalso; exact hk (by simp [partsE, k0, k1, k2, k3, k4, k5, k6, k7]))
def leastE (e : ApiEvent) : Int := if e.Kind = 1 then 1 else 0
theorem event_Valid_raw {e : ApiEvent} (h : okE e) : event_Valid e = some (if partsE e = [] then false else (eq_ApiEvent (ofE e) e && (namedL (partsE e) true && ((e.Kind == 7 || idOk e.ID) && (timeOk e.Time && lenOk (leastE e) e.Len))))) := by
  have hp := parts_ok h
  have hl := parts_len e
  unfold event_Valid
  rw [parts_eq]
  simp only [Option.bind_some]
  by_cases hk : partsE e = []
  · rw [if_pos hk]
    simp [hk]
  · have hn : (((partsE e).length : Int) == 0) = false := by
      have := List.length_pos_iff.2 hk
      simp; exact hk
    rw [if_neg hk, hn, of_eq h hk]
    simp only [Bool.false_eq_true, if_false, Option.bind_some, valid_l0 _ hp (by omega), within_eq]
    have hm : (if (e.Kind == 1) = true then some (1 : Int) else some 0) = some (leastE e) := by unfold leastE; by_cases q : e.Kind = 1 <;> simp [q]
    rw [hm]
    simp only [Option.bind_some, idOk, timeOk, lenOk]
    cases eq_ApiEvent (ofE e) e <;> cases namedL (partsE e) true <;> cases q : e.Kind == 7 <;> cases (decide (1 ≤ e.ID) && decide (e.ID ≤ 1099511627776)) <;> cases (decide (0 ≤ e.Time) && decide (e.Time ≤ 1099511627776)) <;> simp [q]
theorem noS_eq (s : ByteArray) : noS s = true ↔ s = ⟨#[]⟩ := seq_iff s _
theorem event_Valid_eq {e : ApiEvent} (h : okE e) : event_Valid e = some (validE e) := by
  rw [event_Valid_raw h]
  congr 1
  rcases kinds e.Kind with k | k | k | k | k | k | k | k | ⟨k0, k4, k5, k1, k2, k3, k6, k7⟩
  case inr.inr.inr.inr.inr.inr.inr.inr => simp [partsE, validE, k0, k1, k2, k3, k4, k5, k6, k7]
  all_goals
    have a1 : seq (⟨#[]⟩ : ByteArray) e.Name = noS e.Name := seq_symm _ _
    have a2 : eqA z32 e.Sum = noD e.Sum := eqA_symm _ _
    have t0 : timeOk 0 = true := rfl
    have l0 : lenOk 0 0 = true := rfl
    have hT' : (0 : Int) = e.Time ↔ e.Time = 0 := eq_comm
    have hL' : (0 : Int) = e.Len ↔ e.Len = 0 := eq_comm
    have hI' : (0 : Int) = e.ID ↔ e.ID = 0 := eq_comm
    simp [partsE, validE, ofE, leastE, k, eq_ApiEvent, namedL, a1, a2, hT', hL', hI', seq_refl, eqA_refl]
    have bT : ((0 : Int) == e.Time) = (e.Time == 0) := BEq.comm
    have bL : ((0 : Int) == e.Len) = (e.Len == 0) := BEq.comm
    have bI : ((0 : Int) == e.ID) = (e.ID == 0) := BEq.comm
    have cT : (e.Time == 0) = true → timeOk e.Time = true := fun h => by rw [beq_iff_eq.1 h]; rfl
    have cL : (e.Len == 0) = true → lenOk 0 e.Len = true := fun h => by rw [beq_iff_eq.1 h]; rfl
    (try simp only [bT, bL, bI])
    cases hT : (e.Time == 0) <;> cases hL : (e.Len == 0)
    all_goals
      (try rw [cT hT]) <;> (try rw [cL hL])
    all_goals (try simp only [Bool.false_and, Bool.and_false, Bool.true_and, Bool.and_true])
    all_goals (try ac_rfl)
end Go.Cen

/- SHA: shifts that turn, words of a block: the code's and the reference's come to the same. -/
set_option linter.unusedVariables false
set_option linter.unusedSimpArgs false
namespace Go.Cen
def u32 (x : Int) : Prop := 0 ≤ x ∧ x < 4294967296
def rotN (x n : Nat) : Nat := x / 2 ^ n + (x % 2 ^ n) * 2 ^ (32 - n)
theorem rotN_zero {x : Nat} : rotN x 0 = x := by simp [rotN, Nat.mod_one]
theorem rotN_lt {x n : Nat} (hx : x < 2 ^ 32) (hn : n ≤ 32) : rotN x n < 2 ^ 32 := by
  have e : 2 ^ 32 = 2 ^ n * 2 ^ (32 - n) := by rw [← Nat.pow_add]; congr 1; omega
  have h1 : x / 2 ^ n < 2 ^ (32 - n) := by
    apply Nat.div_lt_of_lt_mul; rw [← e]; exact hx
  have h2 : x % 2 ^ n < 2 ^ n := Nat.mod_lt _ (Nat.two_pow_pos n)
  have h3 : (x % 2 ^ n + 1) * 2 ^ (32 - n) ≤ 2 ^ n * 2 ^ (32 - n) := Nat.mul_le_mul_right _ h2
  rw [← e, Nat.add_mul] at h3
  unfold rotN
  omega
theorem rotN_succ {x n : Nat} (hn : n < 32) : rotN x (n + 1) = rotN x n / 2 + 2147483648 * (rotN x n % 2) := by
  have h1 : x / 2 ^ (n + 1) = x / 2 ^ n / 2 := by rw [Nat.pow_succ, Nat.div_div_eq_div_mul]
  have h2 : x % 2 ^ (n + 1) = x % 2 ^ n + 2 ^ n * (x / 2 ^ n % 2) := by rw [Nat.pow_succ, Nat.mod_mul]
  have h3 : 2 ^ (32 - n) = 2 * 2 ^ (31 - n) := by rw [← Nat.pow_succ']; congr 1; omega
  have h4 : 2 ^ n * 2 ^ (31 - n) = 2147483648 := by rw [← Nat.pow_add, show n + (31 - n) = 31 by omega]
  have h5 : (x % 2 ^ n) * 2 ^ (32 - n) = 2 * ((x % 2 ^ n) * 2 ^ (31 - n)) := by rw [h3]; ac_rfl
  unfold rotN
  rw [show 32 - (n + 1) = 31 - n by omega, h1, h2, h5, Nat.add_mul]
  have h6 : 2 ^ n * (x / 2 ^ n % 2) * 2 ^ (31 - n) = 2147483648 * (x / 2 ^ n % 2) := by rw [← h4]; ac_rfl
  rw [h6]
  omega
theorem ref_right_l0 {x n : Nat} (hx : x < 2 ^ 32) (hn : n ≤ 32) : ∀ (d j k : Nat), j + d = n → d < k → ref02_right.l0 (n : Int) k (rotN x j : Int) (j : Int) = some (rotN x n : Int) := by
  intro d
  induction d with
  | zero =>
    intro j k hj hk
    obtain ⟨k, rfl⟩ : ∃ m, k = m + 1 := ⟨k - 1, by omega⟩
    obtain rfl : j = n := by omega
    simp [ref02_right.l0]
  | succ d ih =>
    intro j k hj hk
    obtain ⟨k, rfl⟩ : ∃ m, k = m + 1 := ⟨k - 1, by omega⟩
    have hr := rotN_lt (x := x) (n := j) hx (by omega)
    have hs := rotN_succ (x := x) (n := j) (by omega)
    have hr' := rotN_lt (x := x) (n := j + 1) hx (by omega)
    have e1 : wi64 ((j : Int) + 1) = ((j + 1 : Nat) : Int) := by rw [wi64_id (by omega)]; rfl
    have e3 : ((rotN x j : Int).tdiv 2) = ((rotN x j / 2 : Nat) : Int) := by rw [Int.tdiv_eq_ediv_of_nonneg (by omega)]; rfl
    have e4 : ((rotN x j : Int).tmod 2) = ((rotN x j % 2 : Nat) : Int) := by rw [Int.tmod_eq_emod_of_nonneg (by omega)]; rfl
    have hlt : decide ((j : Int) < (n : Int)) = true := by simp; omega
    simp only [ref02_right.l0, hlt, if_true, e3, e4, wu32_eq]
    by_cases hb : rotN x j % 2 = 1
    · have : (((rotN x j % 2 : Nat) : Int) == 1) = true := by rw [hb]; rfl
      simp only [this, if_true, Option.bind_some, e1]
      have e5 : ((((rotN x j / 2 : Nat) : Int) % 4294967296 + 2147483648) % 4294967296) = (rotN x (j + 1) : Int) := by omega
      rw [e5]
      exact ih (j + 1) k (by omega) (by omega)
    · have : (((rotN x j % 2 : Nat) : Int) == 1) = false := by
        have : rotN x j % 2 = 0 := by omega
        rw [this]; rfl
      simp only [this, if_false, Option.bind_some, e1, Bool.false_eq_true]
      have e5 : (((rotN x j / 2 : Nat) : Int) % 4294967296) = (rotN x (j + 1) : Int) := by omega
      rw [e5]
      exact ih (j + 1) k (by omega) (by omega)
theorem ref_right {x n : Nat} (hx : x < 2 ^ 32) (hn : n ≤ 32) : ref02_right (x : Int) (n : Int) = some (rotN x n : Int) := by
  unfold ref02_right
  have := ref_right_l0 hx hn n 0 FU (by omega) (by simp [FU]; omega)
  rw [rotN_zero] at this
  have e : ((0 : Nat) : Int) = 0 := rfl
  rw [e] at this
  rw [this]; rfl
theorem sha_right_eq {x n : Nat} (hx : x < 2 ^ 32) (h0 : 0 < n) (hn : n < 32) : sha_right (x : Int) (n : Int) = some (rotN x n : Int) := by
  have e1 : wi64 (0 - (n : Int)) = -(n : Int) := by rw [wi64_id (by omega)]; omega
  have e2 : wu64 (-(n : Int)) = ((18446744073709551616 - n : Nat) : Int) := by rw [wu64_eq]; omega
  have e3 : bAnd .u64 ((18446744073709551616 - n : Nat) : Int) 31 = ((32 - n : Nat) : Int) := by
    have := bAnd_nat (k := .u64) rfl (18446744073709551616 - n) 31 (by show _ < 2 ^ 64; omega) (by decide)
    have h31 : (18446744073709551616 - n) &&& 31 = 32 - n := by
      have : (18446744073709551616 - n) &&& (2 ^ 5 - 1) = (18446744073709551616 - n) % 2 ^ 5 := Nat.and_two_pow_sub_one_eq_mod _ 5
      simp only [Nat.reducePow, Nat.reduceSub] at this
      rw [this]; omega
    rw [h31] at this
    exact this
  have e4 : wu64 (32 - ((32 - n : Nat) : Int)) = (n : Int) := by rw [wu64_eq]; omega
  unfold sha_right bits_RotateLeft32
  rw [e1, e2, e3, e4, if_pos (by omega), if_pos (by omega)]
  rw [bShl_u32 (by omega), bShr_eq (by show n ≤ 32; omega)]
  have hq : x / 2 ^ n < 2 ^ (32 - n) := by
    apply Nat.div_lt_of_lt_mul
    rw [← Nat.pow_add, show n + (32 - n) = 32 by omega]; exact hx
  have hm : ((x : Int) * 2 ^ (32 - n)) % 4294967296 = (((x % 2 ^ n) * 2 ^ (32 - n) : Nat) : Int) := by
    have e : (4294967296 : Nat) = 2 ^ n * 2 ^ (32 - n) := by rw [← Nat.pow_add, show n + (32 - n) = 32 by omega]
    have h2 : (x * 2 ^ (32 - n)) % 4294967296 = (x % 2 ^ n) * 2 ^ (32 - n) := by
      rw [e, Nat.mul_mod_mul_right]
    rw [← h2, Int.natCast_emod, Int.natCast_mul, Int.natCast_pow]
    rfl
  have hd : ((x : Int) / 2 ^ n) = ((x / 2 ^ n : Nat) : Int) := by rw [Int.natCast_ediv, Int.natCast_pow]; rfl
  have hml : (x % 2 ^ n) * 2 ^ (32 - n) < 2 ^ 32 := by
    have := rotN_lt (x := x) (n := n) hx (by omega)
    unfold rotN at this; omega
  rw [hm, hd, bOr_nat (k := .u32) rfl _ _ hml (by show _ < 2 ^ 32; exact Nat.lt_of_le_of_lt (Nat.div_le_self _ _) hx), or_add hq]
  simp only [Option.bind_some, rotN]
  rw [Nat.add_comm]
/-- Both turn alike. -/
theorem right_both {x : Int} (hx : u32 x) {n : Nat} (h0 : 0 < n) (hn : n < 32) : ∃ r, sha_right x (n : Int) = some r ∧ ref02_right x (n : Int) = some r ∧ u32 r := by
  obtain ⟨m, rfl⟩ := Int.eq_ofNat_of_zero_le hx.1
  have hm : m < 2 ^ 32 := by have := hx.2; omega
  have hl := rotN_lt hm (Nat.le_of_lt hn)
  exact ⟨_, sha_right_eq hm h0 hn, ref_right hm (Nat.le_of_lt hn), ⟨by omega, by omega⟩⟩
theorem ref_shift_l0 {x n : Nat} (hx : x < 2 ^ 32) : ∀ (d j k : Nat), j + d = n → n < 33 → d < k → ref02_shift.l0 (n : Int) k ((x / 2 ^ j : Nat) : Int) (j : Int) = some ((x / 2 ^ n : Nat) : Int) := by
  intro d
  induction d with
  | zero =>
    intro j k hj _ hk
    obtain ⟨k, rfl⟩ : ∃ m, k = m + 1 := ⟨k - 1, by omega⟩
    obtain rfl : j = n := by omega
    simp [ref02_shift.l0]
  | succ d ih =>
    intro j k hj hn hk
    obtain ⟨k, rfl⟩ : ∃ m, k = m + 1 := ⟨k - 1, by omega⟩
    have e1 : wi64 ((j : Int) + 1) = ((j + 1 : Nat) : Int) := by rw [wi64_id (by omega)]; rfl
    have e3 : (((x / 2 ^ j : Nat) : Int).tdiv 2) = ((x / 2 ^ j / 2 : Nat) : Int) := by
      generalize x / 2 ^ j = q
      rw [Int.tdiv_eq_ediv_of_nonneg (by omega)]; rfl
    have h1 : x / 2 ^ (j + 1) = x / 2 ^ j / 2 := by rw [Nat.pow_succ, Nat.div_div_eq_div_mul]
    have h2 : x / 2 ^ j ≤ x := Nat.div_le_self _ _
    have hlt : decide ((j : Int) < (n : Int)) = true := by simp; omega
    simp only [ref02_shift.l0, hlt, if_true, e3, wu32_eq, e1]
    have e5 : (((x / 2 ^ j / 2 : Nat) : Int) % 4294967296) = ((x / 2 ^ (j + 1) : Nat) : Int) := by
      rw [h1]; generalize x / 2 ^ j = q at h2; omega
    rw [e5]
    exact ih (j + 1) k (by omega) hn (by omega)
theorem ref_shift {x : Int} (hx : u32 x) {n : Nat} (hn : n < 32) : ref02_shift x (n : Int) = some (bShr .u32 x (n : Int)) ∧ u32 (bShr .u32 x (n : Int)) := by
  obtain ⟨m, rfl⟩ := Int.eq_ofNat_of_zero_le hx.1
  have hm : m < 2 ^ 32 := by have := hx.2; omega
  have := ref_shift_l0 (n := n) hm n 0 FU (by omega) (by omega) (by simp [FU]; omega)
  have hd : bShr .u32 (m : Int) (n : Int) = ((m / 2 ^ n : Nat) : Int) := by rw [bShr_eq (by show n ≤ 32; omega), Int.natCast_ediv, Int.natCast_pow]; rfl
  have hq : m / 2 ^ n ≤ m := Nat.div_le_self _ _
  rw [hd]
  refine ⟨?_, by generalize m / 2 ^ n = q at hq; exact ⟨by omega, by omega⟩⟩
  unfold ref02_shift
  simp only [Nat.pow_zero, Nat.div_one] at this
  have e : ((0 : Nat) : Int) = 0 := rfl
  rw [e] at this
  rw [this]; rfl
end Go.Cen

/- SHA: the words of a block. -/
set_option linter.unusedVariables false
set_option linter.unusedSimpArgs false
namespace Go.Cen
theorem u32_0 : u32 0 := ⟨by decide, by decide⟩
def be4 (a b c d : Int) : Int := ((a * 256 + b) * 256 + c) * 256 + d
def u8 (x : Int) : Prop := 0 ≤ x ∧ x < 256
theorem be4_u32 {a b c d : Int} (ha : u8 a) (hb : u8 b) (hc : u8 c) (hd : u8 d) : u32 (be4 a b c d) := by
  obtain ⟨_, _⟩ := ha; obtain ⟨_, _⟩ := hb; obtain ⟨_, _⟩ := hc; obtain ⟨_, _⟩ := hd
  unfold be4; exact ⟨by omega, by omega⟩
theorem loads {a b c d : Int} (ha : u8 a) (hb : u8 b) (hc : u8 c) (hd : u8 d) :
    bOr .u32 (bOr .u32 (bOr .u32 (bShl .u32 (wu32 a) 24) (bShl .u32 (wu32 b) 16)) (bShl .u32 (wu32 c) 8)) (wu32 d) = be4 a b c d := by
  obtain ⟨a, rfl⟩ := Int.eq_ofNat_of_zero_le ha.1
  obtain ⟨b, rfl⟩ := Int.eq_ofNat_of_zero_le hb.1
  obtain ⟨c, rfl⟩ := Int.eq_ofNat_of_zero_le hc.1
  obtain ⟨d, rfl⟩ := Int.eq_ofNat_of_zero_le hd.1
  have h1 := ha.2; have h2 := hb.2; have h3 := hc.2; have h4 := hd.2
  have e1 : bShl .u32 (wu32 (a : Int)) 24 = ((a * 2 ^ 24 : Nat) : Int) := by
    have := bShl_u32 (x := wu32 (a : Int)) (n := 24) (by decide)
    have e : ((24 : Nat) : Int) = 24 := rfl
    rw [e] at this; rw [this, wu32_eq]; omega
  have e2 : bShl .u32 (wu32 (b : Int)) 16 = ((b * 2 ^ 16 : Nat) : Int) := by
    have := bShl_u32 (x := wu32 (b : Int)) (n := 16) (by decide)
    have e : ((16 : Nat) : Int) = 16 := rfl
    rw [e] at this; rw [this, wu32_eq]; omega
  have e3 : bShl .u32 (wu32 (c : Int)) 8 = ((c * 2 ^ 8 : Nat) : Int) := by
    have := bShl_u32 (x := wu32 (c : Int)) (n := 8) (by decide)
    have e : ((8 : Nat) : Int) = 8 := rfl
    rw [e] at this; rw [this, wu32_eq]; omega
  have e4 : wu32 (d : Int) = (d : Int) := by rw [wu32_eq]; omega
  have hb32 : (2 : Nat) ^ IntKind.bits .u32 = 4294967296 := rfl
  rw [e1, e2, e3, e4, bOr_nat (k := .u32) rfl _ _ (by rw [hb32]; omega) (by rw [hb32]; omega), or_add (by omega)]
  rw [show a * 2 ^ 24 + b * 2 ^ 16 = (a * 2 ^ 8 + b) * 2 ^ 16 by omega]
  rw [bOr_nat (k := .u32) rfl _ _ (by rw [hb32]; omega) (by rw [hb32]; omega), or_add (by omega)]
  rw [show (a * 2 ^ 8 + b) * 2 ^ 16 + c * 2 ^ 8 = (a * 2 ^ 16 + b * 2 ^ 8 + c) * 2 ^ 8 by omega]
  rw [bOr_nat (k := .u32) rfl _ _ (by rw [hb32]; omega) (by rw [hb32]; omega), or_add (by omega)]
  unfold be4; omega
theorem u8_bt (s : ByteArray) (j : Int) : u8 (bt s j) := by
  rw [bt_eq]
  exact gt_all (p := u8) (byts_isB s) ⟨by decide, by decide⟩ j
theorem ref_l2 {i off : Int} {p : ByteArray} {w : List Int} (hi : 0 ≤ i ∧ i < 16) (ho : 0 ≤ off) (hp : off + 64 ≤ p.size) (hm : (p.size : Int) ≤ 4611686018427387904) (hw : w.length = 64) (hz : gt w i = 0) :
    ref02_Of.l2 i off p FU 0 w = some (st w i (be4 (bt p (off + 4 * i)) (bt p (off + 4 * i + 1)) (bt p (off + 4 * i + 2)) (bt p (off + 4 * i + 3)))) := by
  obtain ⟨m, hF, _⟩ := FU_succ 5 (by omega)
  rw [hF]
  have b0 := u8_bt p (off + 4 * i)
  have b1 := u8_bt p (off + 4 * i + 1)
  have b2 := u8_bt p (off + 4 * i + 2)
  have b3 := u8_bt p (off + 4 * i + 3)
  obtain ⟨_, _⟩ := b0; obtain ⟨_, _⟩ := b1; obtain ⟨_, _⟩ := b2; obtain ⟨_, _⟩ := b3
  have q0 : wi64 (off + wi64 (4 * i)) = off + 4 * i := by rw [wi64_id (x := 4 * i) (by omega), wi64_id (by omega)]
  have q : ∀ t : Int, 0 ≤ t ∧ t < 4 → wi64 (off + 4 * i + t) = off + 4 * i + t := fun t ht => wi64_id (by omega)
  have qz : wi64 (off + 4 * i) = off + 4 * i := wi64_id (by omega)
  have gz : 0 ≤ off + 4 * i ∧ off + 4 * i < (p.size : Int) := by omega
  have g : ∀ v : Int, gt (st w i v) i = v := fun v => by rw [gt_st _ _ _ _ hi.1 hi.1 (by rw [hw]; omega), if_pos rfl]
  have w1 : wi64 (0 + 1) = 1 := by decide +kernel
  have w2 : wi64 (1 + 1) = 2 := by decide +kernel
  have w3 : wi64 (2 + 1) = 3 := by decide +kernel
  have w4 : wi64 (3 + 1) = 4 := by decide +kernel
  have d0 : decide ((0 : Int) < 4) = true := rfl
  have d1 : decide ((1 : Int) < 4) = true := rfl
  have d2 : decide ((2 : Int) < 4) = true := rfl
  have d3 : decide ((3 : Int) < 4) = true := rfl
  have d4 : decide ((4 : Int) < 4) = false := rfl
  have gi : 0 ≤ i ∧ i < 64 := ⟨hi.1, by omega⟩
  have gp : ∀ t : Int, 0 ≤ t ∧ t < 4 → (0 ≤ off + 4 * i + t ∧ off + 4 * i + t < (p.size : Int)) := fun t ht => by omega
  simp only [ref02_Of.l2, q0, q 0 (by omega), q 1 (by omega), q 2 (by omega), q 3 (by omega), w1, w2, w3, w4, d0, d1, d2, d3, d4, if_true, gi, and_self, gp 0 (by omega), gp 1 (by omega), gp 2 (by omega), gp 3 (by omega), g, st_st, hz, Bool.false_eq_true, if_false, Int.add_zero, qz, gz]
  congr 2
  simp only [wu32_eq, be4]
  omega
set_option maxHeartbeats 1000000 in
theorem words_step {blk p : ByteArray} {off : Int} (hb : blk.size = 64) (ho : 0 ≤ off) (hp : off + 64 ≤ p.size) (hm : (p.size : Int) ≤ 4611686018427387904) (hbp : ∀ j : Int, 0 ≤ j → j < 64 → bt blk j = bt p (off + j)) :
    ∀ (d : Nat) (i : Int) (k k' : Nat) (w : List Int), i = 64 - d → d ≤ 64 → d < k → d < k' → w.length = 64 → (∀ x ∈ w, u32 x) → (∀ j, i ≤ j → gt w j = 0) →
      ∃ ws, sha_words.l0 blk k i w = some ws ∧ ref02_Of.l1 off p k' i w = some ws ∧ ws.length = 64 ∧ ∀ x ∈ ws, u32 x := by
  intro d
  induction d with
  | zero =>
    intro i k k' w hi _ hk hk' hw hu hz
    obtain ⟨k, rfl⟩ : ∃ m, k = m + 1 := ⟨k - 1, by omega⟩
    obtain ⟨k', rfl⟩ : ∃ m, k' = m + 1 := ⟨k' - 1, by omega⟩
    have : decide (i < 64) = false := by simp; omega
    simp only [sha_words.l0, ref02_Of.l1, this, Bool.false_eq_true, if_false]
    exact ⟨w, rfl, rfl, hw, hu⟩
  | succ d ih =>
    intro i k k' w hi hd hk hk' hw hu hz
    obtain ⟨k, rfl⟩ : ∃ m, k = m + 1 := ⟨k - 1, by omega⟩
    obtain ⟨k', rfl⟩ : ∃ m, k' = m + 1 := ⟨k' - 1, by omega⟩
    have hlt : decide (i < 64) = true := by simp; omega
    have e1 : wi64 (i + 1) = i + 1 := wi64_id (by omega)
    have gi : 0 ≤ i ∧ i < 64 := ⟨by omega, by omega⟩
    have next : ∀ v, u32 v → ∃ ws, sha_words.l0 blk k (i + 1) (st w i v) = some ws ∧ ref02_Of.l1 off p k' (i + 1) (st w i v) = some ws ∧ ws.length = 64 ∧ ∀ x ∈ ws, u32 x := fun v hv =>
      ih (i + 1) k k' (st w i v) (by omega) (by omega) (by omega) (by omega) (by rw [st_length, hw]) (st_all hu hv) (fun j hj => by
        rw [gt_st _ _ _ _ (by omega) (by omega) (by rw [hw]; omega), if_neg (by omega)]
        exact hz j (by omega))
    by_cases h16 : i < 16
    · have h16' : decide (i < 16) = true := by simpa using h16
      have f0 : wi64 (4 * i) = 4 * i := wi64_id (by omega)
      have f1 : wi64 (4 * i + 1) = 4 * i + 1 := wi64_id (by omega)
      have f2 : wi64 (4 * i + 2) = 4 * i + 2 := wi64_id (by omega)
      have f3 : wi64 (4 * i + 3) = 4 * i + 3 := wi64_id (by omega)
      have hs : (blk.size : Int) = 64 := by omega
      have c0 : 0 ≤ 4 * i ∧ 4 * i < 64 := by omega
      have c1 : 0 ≤ 4 * i + 1 ∧ 4 * i + 1 < 64 := by omega
      have c2 : 0 ≤ 4 * i + 2 ∧ 4 * i + 2 < 64 := by omega
      have c3 : 0 ≤ 4 * i + 3 ∧ 4 * i + 3 < 64 := by omega
      have b0 := hbp (4 * i) (by omega) (by omega)
      have b1 := hbp (4 * i + 1) (by omega) (by omega)
      have b2 := hbp (4 * i + 2) (by omega) (by omega)
      have b3 := hbp (4 * i + 3) (by omega) (by omega)
      simp only [← Int.add_assoc] at b1 b2 b3
      obtain ⟨ws, h1, h2, h3, h4⟩ := next _ (be4_u32 (u8_bt p (off + 4 * i)) (u8_bt p (off + 4 * i + 1)) (u8_bt p (off + 4 * i + 2)) (u8_bt p (off + 4 * i + 3)))
      refine ⟨ws, ?_, ?_, h3, h4⟩
      · simp only [sha_words.l0, hlt, h16', if_true, f0, f1, f2, f3, hs, c0, c1, c2, c3, gi, and_self, Option.bind_some, e1, b0, b1, b2, b3]
        rw [loads (u8_bt _ _) (u8_bt _ _) (u8_bt _ _) (u8_bt _ _)]
        exact h1
      · simp only [ref02_Of.l1, hlt, h16', if_true, ref_l2 ⟨gi.1, h16⟩ ho hp hm hw (hz i (by omega)), Option.bind_some, e1]
        exact h2
    · have h16' : decide (i < 16) = false := by simpa using h16
      have f15 : wi64 (i - 15) = i - 15 := wi64_id (by omega)
      have f2 : wi64 (i - 2) = i - 2 := wi64_id (by omega)
      have f7 : wi64 (i - 7) = i - 7 := wi64_id (by omega)
      have f16 : wi64 (i - 16) = i - 16 := wi64_id (by omega)
      have c15 : 0 ≤ i - 15 ∧ i - 15 < 64 := by omega
      have c2 : 0 ≤ i - 2 ∧ i - 2 < 64 := by omega
      have c7 : 0 ≤ i - 7 ∧ i - 7 < 64 := by omega
      have c16 : 0 ≤ i - 16 ∧ i - 16 < 64 := by omega
      have u15 := gt_all hu u32_0 (i - 15)
      have u2 := gt_all hu u32_0 (i - 2)
      obtain ⟨a7, p1, q1, _⟩ := right_both u15 (n := 7) (by decide) (by decide)
      obtain ⟨a18, p2, q2, _⟩ := right_both u15 (n := 18) (by decide) (by decide)
      obtain ⟨a17, p3, q3, _⟩ := right_both u2 (n := 17) (by decide) (by decide)
      obtain ⟨a19, p4, q4, _⟩ := right_both u2 (n := 19) (by decide) (by decide)
      obtain ⟨s1, _⟩ := ref_shift u2 (n := 10) (by decide)
      obtain ⟨s2, _⟩ := ref_shift u15 (n := 3) (by decide)
      have k7 : ((7 : Nat) : Int) = 7 := rfl
      have k18 : ((18 : Nat) : Int) = 18 := rfl
      have k17 : ((17 : Nat) : Int) = 17 := rfl
      have k19 : ((19 : Nat) : Int) = 19 := rfl
      have k10 : ((10 : Nat) : Int) = 10 := rfl
      have k3 : ((3 : Nat) : Int) = 3 := rfl
      rw [k7] at p1 q1; rw [k18] at p2 q2; rw [k17] at p3 q3; rw [k19] at p4 q4; rw [k10] at s1; rw [k3] at s2
      generalize hx0 : bXor .u32 (bXor .u32 a7 a18) (bShr .u32 (gt w (i - 15)) 3) = X0
      generalize hx1 : bXor .u32 (bXor .u32 a17 a19) (bShr .u32 (gt w (i - 2)) 10) = X1
      obtain ⟨ws, h1, h2, h3, h4⟩ := next (wu32 (wu32 (wu32 (gt w (i - 16) + X0) + gt w (i - 7)) + X1)) (by rw [wu32_eq]; exact ⟨by omega, by omega⟩)
      refine ⟨ws, ?_, ?_, h3, h4⟩
      · simp only [sha_words.l0, hlt, h16', if_true, f15, f2, f7, f16, c15, c2, c7, c16, gi, and_self, p1, p2, p3, p4, Option.bind_some, e1, Bool.false_eq_true, if_false, hx0, hx1]
        exact h1
      · simp only [ref02_Of.l1, hlt, h16', if_true, f15, f2, f7, f16, c15, c2, c7, c16, gi, and_self, q1, q2, q3, q4, s1, s2, Option.bind_some, e1, Bool.false_eq_true, if_false, hx0, hx1]
        have : wu32 (wu32 (wu32 (X1 + gt w (i - 7)) + X0) + gt w (i - 16)) = wu32 (wu32 (wu32 (gt w (i - 16) + X0) + gt w (i - 7)) + X1) := by simp only [wu32_eq]; omega
        rw [this]
        exact h2
theorem words_both {blk p : ByteArray} {off : Int} (hb : blk.size = 64) (ho : 0 ≤ off) (hp : off + 64 ≤ p.size) (hm : (p.size : Int) ≤ 4611686018427387904) (hbp : ∀ j : Int, 0 ≤ j → j < 64 → bt blk j = bt p (off + j)) :
    ∃ ws, sha_words blk = some ws ∧ ref02_Of.l1 off p FU 0 (List.replicate 64 (0 : Int)) = some ws ∧ ws.length = 64 ∧ ∀ x ∈ ws, u32 x := by
  obtain ⟨ws, h1, h2, h3, h4⟩ := words_step hb ho hp hm hbp 64 0 FU FU (List.replicate 64 (0 : Int)) (by omega) (by omega) (by simp [FU]) (by simp [FU]) (by simp) (fun x hx => by rw [List.eq_of_mem_replicate hx]; exact u32_0)
    (fun j _ => gt_all (p := fun x => x = 0) (fun x hx => List.eq_of_mem_replicate hx) rfl j)
  exact ⟨ws, by unfold sha_words; rw [h1]; rfl, h2, h3, h4⟩
end Go.Cen

/- SHA: a block mixed in. -/
set_option linter.unusedVariables false
set_option linter.unusedSimpArgs false
namespace Go.Cen
theorem bNot_eq {x : Int} (hx : u32 x) : bNot .u32 x = wu32 (4294967295 - x) := by
  obtain ⟨n, rfl⟩ := Int.eq_ofNat_of_zero_le hx.1
  have hn : n < 2 ^ 32 := by have := hx.2; omega
  have e : (if IntKind.signed .u32 = true then (-1 : Int) else IntKind.max .u32) = ((4294967295 : Nat) : Int) := rfl
  have h : 4294967295 ^^^ n = 4294967295 - n := by
    have h1 : (BitVec.allOnes 32 ^^^ BitVec.ofNat 32 n).toNat = 4294967295 ^^^ n := by
      rw [BitVec.toNat_xor, BitVec.toNat_allOnes, BitVec.toNat_ofNat, Nat.mod_eq_of_lt hn]
    rw [BitVec.allOnes_xor, BitVec.toNat_not, BitVec.toNat_ofNat, Nat.mod_eq_of_lt hn] at h1
    omega
  unfold bNot
  rw [e, bXor_nat (k := .u32) rfl _ _ (by decide) hn, h, wu32_eq]
  omega
theorem list8 {x : List Int} (h : x.length = 8) : ∃ a b c d e f g i, x = [a, b, c, d, e, f, g, i] := by
  match x, h with
  | [a, b, c, d, e, f, g, i], _ => exact ⟨a, b, c, d, e, f, g, i, rfl⟩
theorem u32_wu32 (x : Int) : u32 (wu32 x) := by rw [wu32_eq]; exact ⟨by omega, by omega⟩
set_option maxHeartbeats 1000000 in
theorem mix_step (K ws : List Int) : ∀ (n : Nat) (i : Int) (k k' : Nat) (x : List Int), i = 64 - n → n ≤ 64 → n < k → n < k' → x.length = 8 → (∀ y ∈ x, u32 y) →
      ∃ r, sha_mix.l0 K ws k i x = some r ∧ ref02_Of.l3 K ws k' i x = some r ∧ r.length = 8 ∧ ∀ y ∈ r, u32 y := by
  intro n
  induction n with
  | zero =>
    intro i k k' x hi _ hk hk' hx hu
    obtain ⟨k, rfl⟩ : ∃ m, k = m + 1 := ⟨k - 1, by omega⟩
    obtain ⟨k', rfl⟩ : ∃ m, k' = m + 1 := ⟨k' - 1, by omega⟩
    have : decide (i < 64) = false := by simp; omega
    simp only [sha_mix.l0, ref02_Of.l3, this, Bool.false_eq_true, if_false]
    exact ⟨x, rfl, rfl, hx, hu⟩
  | succ n ih =>
    intro i k k' x hi hd hk hk' hx hu
    obtain ⟨k, rfl⟩ : ∃ m, k = m + 1 := ⟨k - 1, by omega⟩
    obtain ⟨k', rfl⟩ : ∃ m, k' = m + 1 := ⟨k' - 1, by omega⟩
    have hlt : decide (i < 64) = true := by simp; omega
    have e1 : wi64 (i + 1) = i + 1 := wi64_id (by omega)
    have gi : 0 ≤ i ∧ i < 64 := ⟨by omega, by omega⟩
    obtain ⟨a, b, c, d, e, f, g, h, rfl⟩ := list8 hx
    have ua : u32 a := hu a (by simp)
    have ue : u32 e := hu e (by simp)
    obtain ⟨r6, p1, q1, _⟩ := right_both ue (n := 6) (by decide) (by decide)
    obtain ⟨r11, p2, q2, _⟩ := right_both ue (n := 11) (by decide) (by decide)
    obtain ⟨r25, p3, q3, _⟩ := right_both ue (n := 25) (by decide) (by decide)
    obtain ⟨r2, p4, q4, _⟩ := right_both ua (n := 2) (by decide) (by decide)
    obtain ⟨r13, p5, q5, _⟩ := right_both ua (n := 13) (by decide) (by decide)
    obtain ⟨r22, p6, q6, _⟩ := right_both ua (n := 22) (by decide) (by decide)
    have c6 : ((6 : Nat) : Int) = 6 := rfl
    have c11 : ((11 : Nat) : Int) = 11 := rfl
    have c25 : ((25 : Nat) : Int) = 25 := rfl
    have c2 : ((2 : Nat) : Int) = 2 := rfl
    have c13 : ((13 : Nat) : Int) = 13 := rfl
    have c22 : ((22 : Nat) : Int) = 22 := rfl
    rw [c6] at p1 q1; rw [c11] at p2 q2; rw [c25] at p3 q3; rw [c2] at p4 q4; rw [c13] at p5 q5; rw [c22] at p6 q6
    have g0 : gt [a, b, c, d, e, f, g, h] 0 = a := rfl
    have g1 : gt [a, b, c, d, e, f, g, h] 1 = b := rfl
    have g2 : gt [a, b, c, d, e, f, g, h] 2 = c := rfl
    have g3 : gt [a, b, c, d, e, f, g, h] 3 = d := rfl
    have g4 : gt [a, b, c, d, e, f, g, h] 4 = e := rfl
    have g5 : gt [a, b, c, d, e, f, g, h] 5 = f := rfl
    have g6 : gt [a, b, c, d, e, f, g, h] 6 = g := rfl
    have g7 : gt [a, b, c, d, e, f, g, h] 7 = h := rfl
    have hc : cpy [a, b, c, d, e, f, g, h] 1 0 7 = [a, a, b, c, d, e, f, g] := rfl
    have hs0 : ∀ v, st [a, a, b, c, d, e, f, g] 0 v = [v, a, b, c, d, e, f, g] := fun v => rfl
    have hg4 : ∀ v, gt [v, a, b, c, d, e, f, g] 4 = d := fun v => rfl
    have hs4 : ∀ v u, st [v, a, b, c, d, e, f, g] 4 u = [v, a, b, c, u, e, f, g] := fun v u => rfl
    obtain ⟨r, h1, h2, h3, h4⟩ := ih (i + 1) k k' (by omega) (by omega) (by omega) (by omega) (x := [wu32 (wu32 (wu32 (wu32 (wu32 (h + bXor .u32 (bXor .u32 r6 r11) r25) + bXor .u32 (bAnd .u32 e f) (bAnd .u32 (wu32 (4294967295 - e)) g)) + gt K i) + gt ws i) + wu32 (bXor .u32 (bXor .u32 r2 r13) r22 + bXor .u32 (bXor .u32 (bAnd .u32 a b) (bAnd .u32 a c)) (bAnd .u32 b c))), a, b, c,
      wu32 (d + wu32 (wu32 (wu32 (wu32 (h + bXor .u32 (bXor .u32 r6 r11) r25) + bXor .u32 (bAnd .u32 e f) (bAnd .u32 (wu32 (4294967295 - e)) g)) + gt K i) + gt ws i)), e, f, g]) rfl (by
        intro y hy
        simp only [List.mem_cons, List.not_mem_nil, or_false] at hy
        rcases hy with rfl | rfl | rfl | rfl | rfl | rfl | rfl | rfl <;> first | exact u32_wu32 _ | exact hu _ (by simp))
    refine ⟨r, ?_, ?_, h3, h4⟩
    · simp only [sha_mix.l0, hlt, if_true, gi, and_self, g0, g1, g2, g3, g4, g5, g6, g7, p1, p2, p3, p4, p5, p6, Option.bind_some, e1, hc, hs0, hg4, hs4, bNot_eq ue]
      exact h1
    · simp only [ref02_Of.l3, hlt, if_true, gi, and_self, g0, g1, g2, g3, g4, g5, g6, g7, q1, q2, q3, q4, q5, q6, Option.bind_some, e1]
      exact h2
theorem add_step (y : List Int) : ∀ (n : Nat) (i : Int) (k k' : Nat) (x : List Int), i = 8 - n → n ≤ 8 → n < k → n < k' → x.length = 8 → (∀ y ∈ x, u32 y) →
      ∃ r, sha_mix.l1 y k i x = some r ∧ ref02_Of.l4 y k' i x = some r ∧ r.length = 8 ∧ ∀ y ∈ r, u32 y := by
  intro n
  induction n with
  | zero =>
    intro i k k' x hi _ hk hk' hx hu
    obtain ⟨k, rfl⟩ : ∃ m, k = m + 1 := ⟨k - 1, by omega⟩
    obtain ⟨k', rfl⟩ : ∃ m, k' = m + 1 := ⟨k' - 1, by omega⟩
    have : decide (i < 8) = false := by simp; omega
    simp only [sha_mix.l1, ref02_Of.l4, this, Bool.false_eq_true, if_false]
    exact ⟨x, rfl, rfl, hx, hu⟩
  | succ n ih =>
    intro i k k' x hi hd hk hk' hx hu
    obtain ⟨k, rfl⟩ : ∃ m, k = m + 1 := ⟨k - 1, by omega⟩
    obtain ⟨k', rfl⟩ : ∃ m, k' = m + 1 := ⟨k' - 1, by omega⟩
    have hlt : decide (i < 8) = true := by simp; omega
    have e1 : wi64 (i + 1) = i + 1 := wi64_id (by omega)
    have gi : 0 ≤ i ∧ i < 8 := ⟨by omega, by omega⟩
    obtain ⟨r, h1, h2, h3, h4⟩ := ih (i + 1) k k' (st x i (wu32 (gt x i + gt y i))) (by omega) (by omega) (by omega) (by omega) (by rw [st_length, hx]) (st_all hu (u32_wu32 _))
    refine ⟨r, ?_, ?_, h3, h4⟩
    · simp only [sha_mix.l1, hlt, if_true, gi, and_self, e1]; exact h1
    · simp only [ref02_Of.l4, hlt, if_true, gi, and_self, e1]; exact h2
/-- One block, both ways. -/
theorem block_both (K : List Int) {blk p : ByteArray} {off : Int} {x : List Int} (hb : blk.size = 64) (ho : 0 ≤ off) (hp : off + 64 ≤ p.size) (hm : (p.size : Int) ≤ 4611686018427387904) (hbp : ∀ j : Int, 0 ≤ j → j < 64 → bt blk j = bt p (off + j))
    (hx : x.length = 8) (hu : ∀ y ∈ x, u32 y) : ∃ ws y r, ref02_Of.l1 off p FU 0 (List.replicate 64 (0 : Int)) = some ws ∧ ref02_Of.l3 K ws FU 0 x = some y ∧ ref02_Of.l4 y FU 0 x = some r ∧ sha_mix x K blk = some r ∧ r.length = 8 ∧ ∀ y ∈ r, u32 y := by
  obtain ⟨ws, h1, h2, _, _⟩ := words_both hb ho hp hm hbp
  obtain ⟨y, h3, h4, h5, h6⟩ := mix_step K ws 64 0 FU FU x (by omega) (by omega) (by simp [FU]) (by simp [FU]) hx hu
  obtain ⟨r, h7, h8, h9, h10⟩ := add_step y 8 0 FU FU x (by omega) (by omega) (by simp [FU]) (by simp [FU]) hx hu
  refine ⟨ws, y, r, h2, h4, h8, ?_, h9, h10⟩
  unfold sha_mix
  rw [h1]; simp only [Option.bind_some]; rw [h3]; simp only [Option.bind_some]; rw [h7]; rfl
/-! ### what is put behind a text -/
def zerosN (n : Nat) : Nat := (119 - n % 64) % 64
def be8 (n : Nat) : List Int := [n / 2 ^ 56 % 256, n / 2 ^ 48 % 256, n / 2 ^ 40 % 256, n / 2 ^ 32 % 256, n / 2 ^ 24 % 256, n / 2 ^ 16 % 256, n / 2 ^ 8 % 256, n % 256]
def padL (xs : List Int) : List Int := xs ++ [128] ++ List.replicate (zerosN xs.length) 0 ++ be8 (8 * xs.length)
theorem pad_l0 : ∀ (z k : Nat) (x : List Int), z < k → (x.length + z) % 64 = 56 → (∀ j, j < z → (x.length + j) % 64 ≠ 56) → x.length + z ≤ LIM → sha_Pad.l0 k x = some (x ++ List.replicate z 0) ∧ ref02_Pad.l0 k x = some (x ++ List.replicate z 0) := by
  intro z
  induction z with
  | zero =>
    intro k x hk h _ _
    obtain ⟨k, rfl⟩ : ∃ m, k = m + 1 := ⟨k - 1, by omega⟩
    have e : ((x.length : Int).tmod 64 != 56) = false := by
      rw [Int.tmod_eq_emod_of_nonneg (by omega)]
      have : (x.length : Int) % 64 = 56 := by omega
      rw [this]; rfl
    simp only [sha_Pad.l0, ref02_Pad.l0, e, Bool.false_eq_true, if_false, List.replicate_zero, List.append_nil, and_self]
  | succ z ih =>
    intro k x hk h hn hl
    obtain ⟨k, rfl⟩ : ∃ m, k = m + 1 := ⟨k - 1, by omega⟩
    have e : ((x.length : Int).tmod 64 != 56) = true := by
      rw [Int.tmod_eq_emod_of_nonneg (by omega)]
      have := hn 0 (by omega)
      simp only [bne_iff_ne, ne_eq]; omega
    have hg : x.length + ([0] : List Int).length ≤ LIM := by simp; omega
    have := ih k (x ++ [0]) (by omega) (by simp; omega) (fun j hj => by have := hn (j + 1) (by omega); simp; omega) (by simp; omega)
    simp only [sha_Pad.l0, ref02_Pad.l0, e, if_true, hg]
    rw [this.1, this.2]
    simp [List.replicate_succ]
theorem padN_facts (n : Nat) : zerosN n < 64 ∧ (n + 1 + zerosN n) % 64 = 56 ∧ ∀ j, j < zerosN n → (n + 1 + j) % 64 ≠ 56 := by
  unfold zerosN; refine ⟨by omega, by omega, fun j hj => by omega⟩
end Go.Cen
