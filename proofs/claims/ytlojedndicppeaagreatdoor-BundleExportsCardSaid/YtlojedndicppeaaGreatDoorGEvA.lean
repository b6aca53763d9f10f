/- EVENT: whether an event may be, and its bytes. -/
import Derived.Test.YtlojedndicppeaaGreatDoorGUtf8A
import Derived.Test.YtlojedndicppeaaGreatDoorCenPl
import Derived.Test.YtlojedndicppeaaGreatDoorPy
import Derived.Test.YtlojedndicppeaaGreatDoorCenMa
set_option linter.unusedVariables false
set_option linter.unusedSimpArgs false
namespace Go.Cen
def z32 : List Int := List.replicate 32 0
def nmOk (s : ByteArray) : Bool := validN (byts s)
theorem name_Valid_eq (s : ByteArray) (h : s.size ≤ 100000) : name_Valid s = some (nmOk s) := by
  have := name_Valid_str (l := byts s) (byts_isB s) (by rw [byts_len]; exact Nat.le_trans h (by decide))
  rwa [strOfNums_byts] at this
def timeOk (t : Int) : Bool := decide (0 ≤ t) && decide (t ≤ 1099511627776)
def idOk (i : Int) : Bool := decide (1 ≤ i) && decide (i ≤ 1099511627776)
def lenOk (lo n : Int) : Bool := decide (lo ≤ n) && decide (n ≤ 600)
def noS (s : ByteArray) : Bool := seq s (⟨#[]⟩ : ByteArray)
def noD (d : List Int) : Bool := eqA d z32
theorem within_eq (a b c : Int) : event_within a b c = some (decide (b ≤ a) && decide (a ≤ c)) := by
  unfold event_within
  by_cases h : b ≤ a
  · simp [h]
  · simp [h]
/-- what an event tells -/
def partsE (e : ApiEvent) : List Dyn88 :=
  if e.Kind = 0 ∨ e.Kind = 4 ∨ e.Kind = 5 then [.i111 e.ID, .i108 e.Name] else if e.Kind = 1 then [.i111 e.ID, .i111 e.Len] else if e.Kind = 2 then [.i111 e.ID, .i111 e.Time, .i111 e.Len, .i112 e.Sum]
  else if e.Kind = 3 then [.i111 e.ID, .i111 e.Time] else if e.Kind = 6 then [.i111 e.ID] else if e.Kind = 7 then [.i111 e.Time] else []
theorem parts_eq (e : ApiEvent) : event_parts e = some (partsE e) := by
  unfold event_parts partsE
  by_cases h0 : e.Kind = 0
  · simp [h0]
  · by_cases h4 : e.Kind = 4
    · simp [h4]
    · by_cases h5 : e.Kind = 5
      · simp [h5]
      · by_cases h1 : e.Kind = 1
        · simp [h1]
        · by_cases h2 : e.Kind = 2
          · simp [h2]
          · by_cases h3 : e.Kind = 3
            · simp [h3]
            · by_cases h6 : e.Kind = 6
              · simp [h6]
              · by_cases h7 : e.Kind = 7
                · simp [h7]
                · simp [h0, h1, h2, h3, h4, h5, h6, h7]
def okD (d : Dyn88) : Prop := match d with | .nil => False | .i111 _ => True | .i108 s => s.size ≤ 100000 | .i112 d => d.length = 32 ∧ isB d
def okE (e : ApiEvent) : Prop := e.Name.size ≤ 100000 ∧ e.Sum.length = 32 ∧ isB e.Sum
theorem parts_ok {e : ApiEvent} (h : okE e) : ∀ d ∈ partsE e, okD d := by
  intro d hd
  unfold partsE at hd
  repeat' split at hd
  all_goals simp at hd
  all_goals (try (rcases hd with rfl | rfl | rfl | rfl) <;> (try trivial) <;> first | exact h.1 | exact h.2)
  all_goals (try (rcases hd with rfl | rfl) <;> (try trivial) <;> first | exact h.1 | exact h.2)
  all_goals (try subst hd; trivial)
theorem parts_len (e : ApiEvent) : (partsE e).length ≤ 4 := by
  unfold partsE
  repeat' split
  all_goals simp
def nums : List Dyn88 → List Int
  | [] => []
  | .i111 a :: r => a :: nums r
  | _ :: r => nums r
def upd : List Dyn88 → ApiEvent → ApiEvent
  | [], e => e
  | .i108 s :: r, e => upd r { e with Name := s }
  | .i112 d :: r, e => upd r { e with Sum := d }
  | _ :: r, e => upd r e
theorem of_l0 (l : List Dyn88) (hl : ∀ d ∈ l, okD d) (hn : l.length ≤ 1000) (e : ApiEvent) : event_of.l0 l FU [] 0 e = some (nums l, upd l e) := by
  have hL := LIM_val
  have := loopI l (by omega) (fun k i (s : List Int × ApiEvent) => event_of.l0 l k s.1 i s.2) (fun r s => some (s.1 ++ nums r, upd r s.2)) (fun r s => s.1.length + r.length ≤ 1000)
    (fun k s hd hI => by simp only [event_of.l0, hd, nums, upd, List.append_nil]; rfl)
    (fun k i x r s hi hlen hm hd hg hx hw hI ih => by
      have hok := hl x hm
      simp only [List.length_cons] at hI
      simp only [event_of.l0, hd, if_true, hg, and_self, hx]
      cases x with
      | nil => exact hok.elim
      | i111 a =>
        have hq : s.1.length + ([a] : List Int).length ≤ LIM := by simp only [List.length_cons, List.length_nil]; omega
        simp only [hq, if_true, Option.bind_some, hw]
        have := ih (s.1 ++ [a], s.2) (by simp only [List.length_append, List.length_cons, List.length_nil]; omega)
        simp only at this
        rw [this]; simp [nums, upd]
      | i108 a =>
        simp only [Option.bind_some, hw]
        have := ih (s.1, { s.2 with Name := a }) (by simp only; omega)
        simp only at this
        rw [this]; simp [nums, upd]
      | i112 a =>
        simp only
        rw [if_pos hok.1]
        simp only [Option.bind_some, hw]
        have := ih (s.1, { s.2 with Sum := a }) (by simp only; omega)
        simp only at this
        rw [this]; simp [nums, upd]) ([], e) (by simpa using hn)
  simpa using this
/-- the last name among parts -/
def namedL : List Dyn88 → Bool → Bool
  | [], b => b
  | .i108 s :: r, _ => namedL r (nmOk s)
  | _ :: r, b => namedL r b
theorem valid_l0 (l : List Dyn88) (hl : ∀ d ∈ l, okD d) (hn : l.length ≤ 1000) (b : Bool) : event_Valid.l0 l FU b 0 = some (namedL l b) := by
  have := loopG l (by omega) (fun k i (s : Bool) => event_Valid.l0 l k s i) (fun r s => some (namedL r s))
    (fun k s hd => by simp only [event_Valid.l0, hd, namedL]; rfl)
    (fun k i x r s hi hlen hd hg hx hw ih => by
      have hm : x ∈ l := by rw [← hx, gt_nat l i hi]; exact List.getElem_mem _
      have hok := hl x hm
      simp only [event_Valid.l0, hd, if_true, hg, and_self, hx]
      cases x with
      | nil => exact hok.elim
      | i111 a => simp only [Option.bind_some, hw]; rw [ih]; simp [namedL]
      | i108 a => simp only [name_Valid_eq a hok, Option.bind_some, hw]; rw [ih]; simp [namedL]
      | i112 a =>
        simp only
        rw [if_pos hok.1]
        simp only [Option.bind_some, hw]; rw [ih]; simp [namedL]) b
  exact this
def bytD : Dyn88 → List Int
  | .nil => []
  | .i111 a => numL (clampN a)
  | .i108 s => numL (clampN (s.size : Int)) ++ byts s
  | .i112 d => d
theorem clampN_len (a : Int) : (numL (clampN a)).length ≤ 8 := numL_len 7 (clampN a) (by have := clampN_le a; omega)
theorem bytD_len {d : Dyn88} (h : okD d) : (bytD d).length ≤ 100008 := by
  cases d with
  | nil => simp [bytD]
  | i111 a => have := clampN_len a; simp only [bytD]; omega
  | i108 s =>
    have h1 := clampN_len (s.size : Int)
    have h2 : s.size ≤ 100000 := h
    simp only [bytD, List.length_append, byts_len]; omega
  | i112 d => have := h.1; simp only [bytD]; omega
theorem wire_Text_eq (s : ByteArray) (h : s.size ≤ 100000) : wire_Text s = some (strOfNums (numL (clampN (s.size : Int)) ++ byts s)) := by
  have hL := LIM_val
  have := clampN_len (s.size : Int)
  unfold wire_Text
  rw [wire_Num_eq]
  simp only [Option.bind_some, strOfNums_size]
  rw [if_pos (by omega)]
  congr 1
  rw [← strOfNums_append, strOfNums_byts]
theorem put_l0 (l : List Dyn88) (hl : ∀ d ∈ l, okD d) (hn : l.length ≤ 10) (xs : List Int) (hx : xs.length ≤ 100) : event_Put.l0 l FU (strOfNums xs) 0 = some (strOfNums (xs ++ l.flatMap bytD)) := by
  have hL := LIM_val
  have := loopI l (by omega) (fun k i (s : List Int) => event_Put.l0 l k (strOfNums s) i) (fun r s => some (strOfNums (s ++ r.flatMap bytD))) (fun r s => s.length + 100008 * r.length ≤ 10000000)
    (fun k s hd hI => by simp only [event_Put.l0, hd, List.flatMap_nil, List.append_nil]; rfl)
    (fun k i x r s hi hlen hm hd hg hx hw hI ih => by
      have hok := hl x hm
      have hb := bytD_len hok
      simp only [List.length_cons] at hI
      simp only [event_Put.l0, hd, if_true, hg, and_self, hx]
      have step : event_Put.l0 l k (strOfNums s ++ strOfNums (bytD x)) (((i + 1 : Nat)) : Int) = some (strOfNums (s ++ (x :: r).flatMap bytD)) := by
        rw [strOfNums_append, ih (s ++ bytD x) (by rw [List.length_append]; omega)]
        simp
      cases x with
      | nil => exact hok.elim
      | i111 a =>
        have hq : s.length + (numL (clampN a)).length ≤ LIM := by simp only [bytD] at hb; omega
        simp only [event_number_put, wire_Num_eq, Option.bind_some, strOfNums_size, hq, if_true, hw]
        exact step
      | i108 a =>
        have hq : s.length + (numL (clampN (a.size : Int)) ++ byts a).length ≤ LIM := by simp only [bytD] at hb; omega
        simp only [event_text_put, wire_Text_eq a hok, Option.bind_some, strOfNums_size, hq, if_true, hw]
        exact step
      | i112 a =>
        have hq : s.length + a.length ≤ LIM := by simp only [bytD] at hb; omega
        have h32 : a.length = 32 := hok.1
        simp only [h32, if_true, event_sum_put, wire_Sum, Option.bind_some, strOfNums_size]
        rw [h32] at hq
        simp only [hq, if_true, Option.bind_some, hw]
        exact step) xs (by omega)
  exact this
def validE (e : ApiEvent) : Bool :=
  if e.Kind = 0 ∨ e.Kind = 4 ∨ e.Kind = 5 then idOk e.ID && (nmOk e.Name && ((e.Time == 0) && ((e.Len == 0) && noD e.Sum)))
  else if e.Kind = 1 then idOk e.ID && (noS e.Name && ((e.Time == 0) && (lenOk 1 e.Len && noD e.Sum)))
  else if e.Kind = 2 then idOk e.ID && (noS e.Name && (timeOk e.Time && lenOk 0 e.Len))
  else if e.Kind = 3 then idOk e.ID && (noS e.Name && (timeOk e.Time && ((e.Len == 0) && noD e.Sum)))
  else if e.Kind = 6 then idOk e.ID && (noS e.Name && ((e.Time == 0) && ((e.Len == 0) && noD e.Sum)))
  else if e.Kind = 7 then (e.ID == 0) && (noS e.Name && (timeOk e.Time && ((e.Len == 0) && noD e.Sum)))
  else false
theorem seq_symm (a b : ByteArray) : seq a b = seq b a := by rw [Bool.eq_iff_iff, seq_iff, seq_iff]; exact eq_comm
theorem eqA_symm (a b : List Int) : eqA a b = eqA b a := by rw [Bool.eq_iff_iff, eqA_iff, eqA_iff]; exact eq_comm
theorem seq_refl (s : ByteArray) : seq s s = true := (seq_iff s s).2 rfl
theorem eqA_refl (s : List Int) : eqA s s = true := (eqA_iff s s).2 rfl
end Go.Cen

/- EVENT: whether an event may be, and its bytes: both sides. -/
set_option linter.unusedVariables false
set_option linter.unusedSimpArgs false
namespace Go.Cen
def ofE (e : ApiEvent) : ApiEvent :=
  if e.Kind = 0 ∨ e.Kind = 4 ∨ e.Kind = 5 then ⟨e.Kind, e.ID, e.Name, 0, 0, z32⟩ else if e.Kind = 1 then ⟨e.Kind, e.ID, ⟨#[]⟩, 0, e.Len, z32⟩ else if e.Kind = 2 then ⟨e.Kind, e.ID, ⟨#[]⟩, e.Time, e.Len, e.Sum⟩
  else if e.Kind = 3 then ⟨e.Kind, e.ID, ⟨#[]⟩, e.Time, 0, z32⟩ else if e.Kind = 6 then ⟨e.Kind, e.ID, ⟨#[]⟩, 0, 0, z32⟩ else ⟨e.Kind, 0, ⟨#[]⟩, e.Time, 0, z32⟩
theorem of_l0' {k : Int} {l : List Dyn88} (hl : ∀ d ∈ l, okD d) (hn : l.length ≤ 1000) : event_of.l0 l FU ([] : List Int) 0 (ApiEvent.mk k 0 (⟨#[]⟩ : ByteArray) 0 0 (List.replicate 32 (0 : Int))) = some (nums l, upd l ⟨k, 0, ⟨#[]⟩, 0, 0, z32⟩) := of_l0 l hl hn _
theorem gt2 (a b c : Int) : gt [a, b, c] 2 = c := rfl
theorem gt1 (a b : Int) (r : List Int) : gt (a :: b :: r) 1 = b := rfl
theorem gt0' (a : Int) (r : List Int) : gt (a :: r) 0 = a := rfl
theorem kinds (k : Int) : k = 0 ∨ k = 4 ∨ k = 5 ∨ k = 1 ∨ k = 2 ∨ k = 3 ∨ k = 6 ∨ k = 7 ∨ (k ≠ 0 ∧ k ≠ 4 ∧ k ≠ 5 ∧ k ≠ 1 ∧ k ≠ 2 ∧ k ≠ 3 ∧ k ≠ 6 ∧ k ≠ 7) := by omega
theorem of_eq {e : ApiEvent} (h : okE e) (hk : partsE e ≠ []) : event_of e.Kind (partsE e) = some (ofE e) := by
  have hp := parts_ok h
  have hl := parts_len e
  unfold event_of
  rw [of_l0' hp (by omega)]
  rcases kinds e.Kind with k | k | k | k | k | k | k | k | ⟨k0, k4, k5, k1, k2, k3, k6, k7⟩
  all_goals first
    | (simp [partsE, ofE, k, nums, upd, gt2, gt1, gt0']; done)
    | (exfalso; exact hk (by simp [partsE, k0, k1, k2, k3, k4, k5, k6, k7]))
def leastE (e : ApiEvent) : Int := if e.Kind = 1 then 1 else 0
theorem event_Valid_raw {e : ApiEvent} (h : okE e) : event_Valid e = some (if partsE e = [] then false else (eq_ApiEvent (ofE e) e && (namedL (partsE e) true && ((e.Kind == 7 || idOk e.ID) && (timeOk e.Time && lenOk (leastE e) e.Len))))) := by
  have hp := parts_ok h
  have hl := parts_len e
  unfold event_Valid
  rw [parts_eq]
  simp only [Option.bind_some]
  by_cases hk : partsE e = []
  · rw [if_pos hk]
    simp [hk]
  · have hn : (((partsE e).length : Int) == 0) = false := by
      have := List.length_pos_iff.2 hk
      simp; exact hk
    rw [if_neg hk, hn, of_eq h hk]
    simp only [Bool.false_eq_true, if_false, Option.bind_some, valid_l0 _ hp (by omega), within_eq]
    have hm : (if (e.Kind == 1) = true then some (1 : Int) else some 0) = some (leastE e) := by unfold leastE; by_cases q : e.Kind = 1 <;> simp [q]
    rw [hm]
    simp only [Option.bind_some, idOk, timeOk, lenOk]
    cases eq_ApiEvent (ofE e) e <;> cases namedL (partsE e) true <;> cases q : e.Kind == 7 <;> cases (decide (1 ≤ e.ID) && decide (e.ID ≤ 1099511627776)) <;> cases (decide (0 ≤ e.Time) && decide (e.Time ≤ 1099511627776)) <;> simp [q]
theorem event_Valid_eq {e : ApiEvent} (h : okE e) : event_Valid e = some (validE e) := by
  rw [event_Valid_raw h]
  congr 1
  rcases kinds e.Kind with k | k | k | k | k | k | k | k | ⟨k0, k4, k5, k1, k2, k3, k6, k7⟩
  case inr.inr.inr.inr.inr.inr.inr.inr => simp [partsE, validE, k0, k1, k2, k3, k4, k5, k6, k7]
  all_goals
    have a1 : seq (⟨#[]⟩ : ByteArray) e.Name = noS e.Name := seq_symm _ _
    have a2 : eqA z32 e.Sum = noD e.Sum := eqA_symm _ _
    have t0 : timeOk 0 = true := rfl
    have l0 : lenOk 0 0 = true := rfl
    have hT' : (0 : Int) = e.Time ↔ e.Time = 0 := eq_comm
    have hL' : (0 : Int) = e.Len ↔ e.Len = 0 := eq_comm
    have hI' : (0 : Int) = e.ID ↔ e.ID = 0 := eq_comm
    simp [partsE, validE, ofE, leastE, k, eq_ApiEvent, namedL, a1, a2, hT', hL', hI', seq_refl, eqA_refl]
    have bT : ((0 : Int) == e.Time) = (e.Time == 0) := BEq.comm
    have bL : ((0 : Int) == e.Len) = (e.Len == 0) := BEq.comm
    have bI : ((0 : Int) == e.ID) = (e.ID == 0) := BEq.comm
    have cT : (e.Time == 0) = true → timeOk e.Time = true := fun h => by rw [beq_iff_eq.1 h]; rfl
    have cL : (e.Len == 0) = true → lenOk 0 e.Len = true := fun h => by rw [beq_iff_eq.1 h]; rfl
    (try simp only [bT, bL, bI])
    cases hT : (e.Time == 0) <;> cases hL : (e.Len == 0)
    all_goals
      (try rw [cT hT]) <;> (try rw [cL hL])
    all_goals (try simp only [Bool.false_and, Bool.and_false, Bool.true_and, Bool.and_true])
    all_goals (try ac_rfl)
end Go.Cen

/- SHA: shifts that turn, words of a block: the code's and the reference's come to the same. -/
set_option linter.unusedVariables false
set_option linter.unusedSimpArgs false
namespace Go.Cen
def u32 (x : Int) : Prop := 0 ≤ x ∧ x < 4294967296
def rotN (x n : Nat) : Nat := x / 2 ^ n + (x % 2 ^ n) * 2 ^ (32 - n)
theorem rotN_zero {x : Nat} : rotN x 0 = x := by simp [rotN, Nat.mod_one]
theorem rotN_lt {x n : Nat} (hx : x < 2 ^ 32) (hn : n ≤ 32) : rotN x n < 2 ^ 32 := by
  have e : 2 ^ 32 = 2 ^ n * 2 ^ (32 - n) := by rw [← Nat.pow_add]; congr 1; omega
  have h1 : x / 2 ^ n < 2 ^ (32 - n) := by
    apply Nat.div_lt_of_lt_mul; rw [← e]; exact hx
  have h2 : x % 2 ^ n < 2 ^ n := Nat.mod_lt _ (Nat.two_pow_pos n)
  have h3 : (x % 2 ^ n + 1) * 2 ^ (32 - n) ≤ 2 ^ n * 2 ^ (32 - n) := Nat.mul_le_mul_right _ h2
  rw [← e, Nat.add_mul] at h3
  unfold rotN
  omega
theorem rotN_succ {x n : Nat} (hn : n < 32) : rotN x (n + 1) = rotN x n / 2 + 2147483648 * (rotN x n % 2) := by
  have h1 : x / 2 ^ (n + 1) = x / 2 ^ n / 2 := by rw [Nat.pow_succ, Nat.div_div_eq_div_mul]
  have h2 : x % 2 ^ (n + 1) = x % 2 ^ n + 2 ^ n * (x / 2 ^ n % 2) := by rw [Nat.pow_succ, Nat.mod_mul]
  have h3 : 2 ^ (32 - n) = 2 * 2 ^ (31 - n) := by rw [← Nat.pow_succ']; congr 1; omega
  have h4 : 2 ^ n * 2 ^ (31 - n) = 2147483648 := by rw [← Nat.pow_add, show n + (31 - n) = 31 by omega]
  have h5 : (x % 2 ^ n) * 2 ^ (32 - n) = 2 * ((x % 2 ^ n) * 2 ^ (31 - n)) := by rw [h3]; ac_rfl
  unfold rotN
  rw [show 32 - (n + 1) = 31 - n by omega, h1, h2, h5, Nat.add_mul]
  have h6 : 2 ^ n * (x / 2 ^ n % 2) * 2 ^ (31 - n) = 2147483648 * (x / 2 ^ n % 2) := by rw [← h4]; ac_rfl
  rw [h6]
  omega
theorem ref_right_l0 {x n : Nat} (hx : x < 2 ^ 32) (hn : n ≤ 32) : ∀ (d j k : Nat), j + d = n → d < k → ref02_right.l0 (n : Int) k (rotN x j : Int) (j : Int) = some (rotN x n : Int) := by
  intro d
  induction d with
  | zero =>
    intro j k hj hk
    obtain ⟨k, rfl⟩ : ∃ m, k = m + 1 := ⟨k - 1, by omega⟩
    obtain rfl : j = n := by omega
    simp [ref02_right.l0]
  | succ d ih =>
    intro j k hj hk
    obtain ⟨k, rfl⟩ : ∃ m, k = m + 1 := ⟨k - 1, by omega⟩
    have hr := rotN_lt (x := x) (n := j) hx (by omega)
    have hs := rotN_succ (x := x) (n := j) (by omega)
    have hr' := rotN_lt (x := x) (n := j + 1) hx (by omega)
    have e1 : wi64 ((j : Int) + 1) = ((j + 1 : Nat) : Int) := by rw [wi64_id (by omega)]; rfl
    have e3 : ((rotN x j : Int).tdiv 2) = ((rotN x j / 2 : Nat) : Int) := by rw [Int.tdiv_eq_ediv_of_nonneg (by omega)]; rfl
    have e4 : ((rotN x j : Int).tmod 2) = ((rotN x j % 2 : Nat) : Int) := by rw [Int.tmod_eq_emod_of_nonneg (by omega)]; rfl
    have hlt : decide ((j : Int) < (n : Int)) = true := by simp; omega
    simp only [ref02_right.l0, hlt, if_true, e3, e4, wu32_eq]
    by_cases hb : rotN x j % 2 = 1
    · have : (((rotN x j % 2 : Nat) : Int) == 1) = true := by rw [hb]; rfl
      simp only [this, if_true, Option.bind_some, e1]
      have e5 : ((((rotN x j / 2 : Nat) : Int) % 4294967296 + 2147483648) % 4294967296) = (rotN x (j + 1) : Int) := by omega
      rw [e5]
      exact ih (j + 1) k (by omega) (by omega)
    · have : (((rotN x j % 2 : Nat) : Int) == 1) = false := by
        have : rotN x j % 2 = 0 := by omega
        rw [this]; rfl
      simp only [this, if_false, Option.bind_some, e1, Bool.false_eq_true]
      have e5 : (((rotN x j / 2 : Nat) : Int) % 4294967296) = (rotN x (j + 1) : Int) := by omega
      rw [e5]
      exact ih (j + 1) k (by omega) (by omega)
theorem ref_right {x n : Nat} (hx : x < 2 ^ 32) (hn : n ≤ 32) : ref02_right (x : Int) (n : Int) = some (rotN x n : Int) := by
  unfold ref02_right
  have := ref_right_l0 hx hn n 0 FU (by omega) (by simp [FU]; omega)
  rw [rotN_zero] at this
  have e : ((0 : Nat) : Int) = 0 := rfl
  rw [e] at this
  rw [this]; rfl
theorem sha_right_eq {x n : Nat} (hx : x < 2 ^ 32) (h0 : 0 < n) (hn : n < 32) : sha_right (x : Int) (n : Int) = some (rotN x n : Int) := by
  have e1 : wi64 (0 - (n : Int)) = -(n : Int) := by rw [wi64_id (by omega)]; omega
  have e2 : wu64 (-(n : Int)) = ((18446744073709551616 - n : Nat) : Int) := by rw [wu64_eq]; omega
  have e3 : bAnd .u64 ((18446744073709551616 - n : Nat) : Int) 31 = ((32 - n : Nat) : Int) := by
    have := bAnd_nat (k := .u64) rfl (18446744073709551616 - n) 31 (by show _ < 2 ^ 64; omega) (by decide)
    have h31 : (18446744073709551616 - n) &&& 31 = 32 - n := by
      have : (18446744073709551616 - n) &&& (2 ^ 5 - 1) = (18446744073709551616 - n) % 2 ^ 5 := Nat.and_two_pow_sub_one_eq_mod _ 5
      simp only [Nat.reducePow, Nat.reduceSub] at this
      rw [this]; omega
    rw [h31] at this
    exact this
  have e4 : wu64 (32 - ((32 - n : Nat) : Int)) = (n : Int) := by rw [wu64_eq]; omega
  unfold sha_right bits_RotateLeft32
  rw [e1, e2, e3, e4, if_pos (by omega), if_pos (by omega)]
  rw [bShl_u32 (by omega), bShr_eq (by show n ≤ 32; omega)]
  have hq : x / 2 ^ n < 2 ^ (32 - n) := by
    apply Nat.div_lt_of_lt_mul
    rw [← Nat.pow_add, show n + (32 - n) = 32 by omega]; exact hx
  have hm : ((x : Int) * 2 ^ (32 - n)) % 4294967296 = (((x % 2 ^ n) * 2 ^ (32 - n) : Nat) : Int) := by
    have e : (4294967296 : Nat) = 2 ^ n * 2 ^ (32 - n) := by rw [← Nat.pow_add, show n + (32 - n) = 32 by omega]
    have h2 : (x * 2 ^ (32 - n)) % 4294967296 = (x % 2 ^ n) * 2 ^ (32 - n) := by
      rw [e, Nat.mul_mod_mul_right]
    rw [← h2, Int.natCast_emod, Int.natCast_mul, Int.natCast_pow]
    rfl
  have hd : ((x : Int) / 2 ^ n) = ((x / 2 ^ n : Nat) : Int) := by rw [Int.natCast_ediv, Int.natCast_pow]; rfl
  have hml : (x % 2 ^ n) * 2 ^ (32 - n) < 2 ^ 32 := by
    have := rotN_lt (x := x) (n := n) hx (by omega)
    unfold rotN at this; omega
  rw [hm, hd, bOr_nat (k := .u32) rfl _ _ hml (by show _ < 2 ^ 32; exact Nat.lt_of_le_of_lt (Nat.div_le_self _ _) hx), or_add hq]
  simp only [Option.bind_some, rotN]
  rw [Nat.add_comm]
/-- Both turn alike. -/
theorem right_both {x : Int} (hx : u32 x) {n : Nat} (h0 : 0 < n) (hn : n < 32) : ∃ r, sha_right x (n : Int) = some r ∧ ref02_right x (n : Int) = some r ∧ u32 r := by
  obtain ⟨m, rfl⟩ := Int.eq_ofNat_of_zero_le hx.1
  have hm : m < 2 ^ 32 := by have := hx.2; omega
  have hl := rotN_lt hm (Nat.le_of_lt hn)
  exact ⟨_, sha_right_eq hm h0 hn, ref_right hm (Nat.le_of_lt hn), ⟨by omega, by omega⟩⟩
theorem ref_shift_l0 {x n : Nat} (hx : x < 2 ^ 32) : ∀ (d j k : Nat), j + d = n → n < 33 → d < k → ref02_shift.l0 (n : Int) k ((x / 2 ^ j : Nat) : Int) (j : Int) = some ((x / 2 ^ n : Nat) : Int) := by
  intro d
  induction d with
  | zero =>
    intro j k hj _ hk
    obtain ⟨k, rfl⟩ : ∃ m, k = m + 1 := ⟨k - 1, by omega⟩
    obtain rfl : j = n := by omega
    simp [ref02_shift.l0]
  | succ d ih =>
    intro j k hj hn hk
    obtain ⟨k, rfl⟩ : ∃ m, k = m + 1 := ⟨k - 1, by omega⟩
    have e1 : wi64 ((j : Int) + 1) = ((j + 1 : Nat) : Int) := by rw [wi64_id (by omega)]; rfl
    have e3 : (((x / 2 ^ j : Nat) : Int).tdiv 2) = ((x / 2 ^ j / 2 : Nat) : Int) := by
      generalize x / 2 ^ j = q
      rw [Int.tdiv_eq_ediv_of_nonneg (by omega)]; rfl
    have h1 : x / 2 ^ (j + 1) = x / 2 ^ j / 2 := by rw [Nat.pow_succ, Nat.div_div_eq_div_mul]
    have h2 : x / 2 ^ j ≤ x := Nat.div_le_self _ _
    have hlt : decide ((j : Int) < (n : Int)) = true := by simp; omega
    simp only [ref02_shift.l0, hlt, if_true, e3, wu32_eq, e1]
    have e5 : (((x / 2 ^ j / 2 : Nat) : Int) % 4294967296) = ((x / 2 ^ (j + 1) : Nat) : Int) := by
      rw [h1]; generalize x / 2 ^ j = q at h2; omega
    rw [e5]
    exact ih (j + 1) k (by omega) hn (by omega)
theorem ref_shift {x : Int} (hx : u32 x) {n : Nat} (hn : n < 32) : ref02_shift x (n : Int) = some (bShr .u32 x (n : Int)) ∧ u32 (bShr .u32 x (n : Int)) := by
  obtain ⟨m, rfl⟩ := Int.eq_ofNat_of_zero_le hx.1
  have hm : m < 2 ^ 32 := by have := hx.2; omega
  have := ref_shift_l0 (n := n) hm n 0 FU (by omega) (by omega) (by simp [FU]; omega)
  have hd : bShr .u32 (m : Int) (n : Int) = ((m / 2 ^ n : Nat) : Int) := by rw [bShr_eq (by show n ≤ 32; omega), Int.natCast_ediv, Int.natCast_pow]; rfl
  have hq : m / 2 ^ n ≤ m := Nat.div_le_self _ _
  rw [hd]
  refine ⟨?_, by generalize m / 2 ^ n = q at hq; exact ⟨by omega, by omega⟩⟩
  unfold ref02_shift
  simp only [Nat.pow_zero, Nat.div_one] at this
  have e : ((0 : Nat) : Int) = 0 := rfl
  rw [e] at this
  rw [this]; rfl
end Go.Cen

/- SHA: the words of a block. -/
set_option linter.unusedVariables false
set_option linter.unusedSimpArgs false
namespace Go.Cen
theorem u32_0 : u32 0 := ⟨by decide, by decide⟩
def be4 (a b c d : Int) : Int := ((a * 256 + b) * 256 + c) * 256 + d
def u8 (x : Int) : Prop := 0 ≤ x ∧ x < 256
theorem be4_u32 {a b c d : Int} (ha : u8 a) (hb : u8 b) (hc : u8 c) (hd : u8 d) : u32 (be4 a b c d) := by
  obtain ⟨_, _⟩ := ha; obtain ⟨_, _⟩ := hb; obtain ⟨_, _⟩ := hc; obtain ⟨_, _⟩ := hd
  unfold be4; exact ⟨by omega, by omega⟩
theorem loads {a b c d : Int} (ha : u8 a) (hb : u8 b) (hc : u8 c) (hd : u8 d) :
    bOr .u32 (bOr .u32 (bOr .u32 (bShl .u32 (wu32 a) 24) (bShl .u32 (wu32 b) 16)) (bShl .u32 (wu32 c) 8)) (wu32 d) = be4 a b c d := by
  obtain ⟨a, rfl⟩ := Int.eq_ofNat_of_zero_le ha.1
  obtain ⟨b, rfl⟩ := Int.eq_ofNat_of_zero_le hb.1
  obtain ⟨c, rfl⟩ := Int.eq_ofNat_of_zero_le hc.1
  obtain ⟨d, rfl⟩ := Int.eq_ofNat_of_zero_le hd.1
  have h1 := ha.2; have h2 := hb.2; have h3 := hc.2; have h4 := hd.2
  have e1 : bShl .u32 (wu32 (a : Int)) 24 = ((a * 2 ^ 24 : Nat) : Int) := by
    have := bShl_u32 (x := wu32 (a : Int)) (n := 24) (by decide)
    have e : ((24 : Nat) : Int) = 24 := rfl
    rw [e] at this; rw [this, wu32_eq]; omega
  have e2 : bShl .u32 (wu32 (b : Int)) 16 = ((b * 2 ^ 16 : Nat) : Int) := by
    have := bShl_u32 (x := wu32 (b : Int)) (n := 16) (by decide)
    have e : ((16 : Nat) : Int) = 16 := rfl
    rw [e] at this; rw [this, wu32_eq]; omega
  have e3 : bShl .u32 (wu32 (c : Int)) 8 = ((c * 2 ^ 8 : Nat) : Int) := by
    have := bShl_u32 (x := wu32 (c : Int)) (n := 8) (by decide)
    have e : ((8 : Nat) : Int) = 8 := rfl
    rw [e] at this; rw [this, wu32_eq]; omega
  have e4 : wu32 (d : Int) = (d : Int) := by rw [wu32_eq]; omega
  have hb32 : (2 : Nat) ^ IntKind.bits .u32 = 4294967296 := rfl
  rw [e1, e2, e3, e4, bOr_nat (k := .u32) rfl _ _ (by rw [hb32]; omega) (by rw [hb32]; omega), or_add (by omega)]
  rw [show a * 2 ^ 24 + b * 2 ^ 16 = (a * 2 ^ 8 + b) * 2 ^ 16 by omega]
  rw [bOr_nat (k := .u32) rfl _ _ (by rw [hb32]; omega) (by rw [hb32]; omega), or_add (by omega)]
  rw [show (a * 2 ^ 8 + b) * 2 ^ 16 + c * 2 ^ 8 = (a * 2 ^ 16 + b * 2 ^ 8 + c) * 2 ^ 8 by omega]
  rw [bOr_nat (k := .u32) rfl _ _ (by rw [hb32]; omega) (by rw [hb32]; omega), or_add (by omega)]
  unfold be4; omega
theorem u8_bt (s : ByteArray) (j : Int) : u8 (bt s j) := by
  rw [bt_eq]
  exact gt_all (p := u8) (byts_isB s) ⟨by decide, by decide⟩ j
theorem ref_l2 {i off : Int} {p : ByteArray} {w : List Int} (hi : 0 ≤ i ∧ i < 16) (ho : 0 ≤ off) (hp : off + 64 ≤ p.size) (hm : (p.size : Int) ≤ 4611686018427387904) (hw : w.length = 64) (hz : gt w i = 0) :
    ref02_Of.l2 i off p FU 0 w = some (st w i (be4 (bt p (off + 4 * i)) (bt p (off + 4 * i + 1)) (bt p (off + 4 * i + 2)) (bt p (off + 4 * i + 3)))) := by
  obtain ⟨m, hF, _⟩ := FU_succ 5 (by omega)
  rw [hF]
  have b0 := u8_bt p (off + 4 * i)
  have b1 := u8_bt p (off + 4 * i + 1)
  have b2 := u8_bt p (off + 4 * i + 2)
  have b3 := u8_bt p (off + 4 * i + 3)
  obtain ⟨_, _⟩ := b0; obtain ⟨_, _⟩ := b1; obtain ⟨_, _⟩ := b2; obtain ⟨_, _⟩ := b3
  have q0 : wi64 (off + wi64 (4 * i)) = off + 4 * i := by rw [wi64_id (x := 4 * i) (by omega), wi64_id (by omega)]
  have q : ∀ t : Int, 0 ≤ t ∧ t < 4 → wi64 (off + 4 * i + t) = off + 4 * i + t := fun t ht => wi64_id (by omega)
  have qz : wi64 (off + 4 * i) = off + 4 * i := wi64_id (by omega)
  have gz : 0 ≤ off + 4 * i ∧ off + 4 * i < (p.size : Int) := by omega
  have g : ∀ v : Int, gt (st w i v) i = v := fun v => by rw [gt_st _ _ _ _ hi.1 hi.1 (by rw [hw]; omega), if_pos rfl]
  have w1 : wi64 (0 + 1) = 1 := by decide +kernel
  have w2 : wi64 (1 + 1) = 2 := by decide +kernel
  have w3 : wi64 (2 + 1) = 3 := by decide +kernel
  have w4 : wi64 (3 + 1) = 4 := by decide +kernel
  have d0 : decide ((0 : Int) < 4) = true := rfl
  have d1 : decide ((1 : Int) < 4) = true := rfl
  have d2 : decide ((2 : Int) < 4) = true := rfl
  have d3 : decide ((3 : Int) < 4) = true := rfl
  have d4 : decide ((4 : Int) < 4) = false := rfl
  have gi : 0 ≤ i ∧ i < 64 := ⟨hi.1, by omega⟩
  have gp : ∀ t : Int, 0 ≤ t ∧ t < 4 → (0 ≤ off + 4 * i + t ∧ off + 4 * i + t < (p.size : Int)) := fun t ht => by omega
  simp only [ref02_Of.l2, q0, q 0 (by omega), q 1 (by omega), q 2 (by omega), q 3 (by omega), w1, w2, w3, w4, d0, d1, d2, d3, d4, if_true, gi, and_self, gp 0 (by omega), gp 1 (by omega), gp 2 (by omega), gp 3 (by omega), g, st_st, hz, Bool.false_eq_true, if_false, Int.add_zero, qz, gz]
  congr 2
  simp only [wu32_eq, be4]
  omega
set_option maxHeartbeats 1000000 in
theorem words_step {blk p : ByteArray} {off : Int} (hb : blk.size = 64) (ho : 0 ≤ off) (hp : off + 64 ≤ p.size) (hm : (p.size : Int) ≤ 4611686018427387904) (hbp : ∀ j : Int, 0 ≤ j → j < 64 → bt blk j = bt p (off + j)) :
    ∀ (d : Nat) (i : Int) (k k' : Nat) (w : List Int), i = 64 - d → d ≤ 64 → d < k → d < k' → w.length = 64 → (∀ x ∈ w, u32 x) → (∀ j, i ≤ j → gt w j = 0) →
      ∃ ws, sha_words.l0 blk k i w = some ws ∧ ref02_Of.l1 off p k' i w = some ws ∧ ws.length = 64 ∧ ∀ x ∈ ws, u32 x := by
  intro d
  induction d with
  | zero =>
    intro i k k' w hi _ hk hk' hw hu hz
    obtain ⟨k, rfl⟩ : ∃ m, k = m + 1 := ⟨k - 1, by omega⟩
    obtain ⟨k', rfl⟩ : ∃ m, k' = m + 1 := ⟨k' - 1, by omega⟩
    have : decide (i < 64) = false := by simp; omega
    simp only [sha_words.l0, ref02_Of.l1, this, Bool.false_eq_true, if_false]
    exact ⟨w, rfl, rfl, hw, hu⟩
  | succ d ih =>
    intro i k k' w hi hd hk hk' hw hu hz
    obtain ⟨k, rfl⟩ : ∃ m, k = m + 1 := ⟨k - 1, by omega⟩
    obtain ⟨k', rfl⟩ : ∃ m, k' = m + 1 := ⟨k' - 1, by omega⟩
    have hlt : decide (i < 64) = true := by simp; omega
    have e1 : wi64 (i + 1) = i + 1 := wi64_id (by omega)
    have gi : 0 ≤ i ∧ i < 64 := ⟨by omega, by omega⟩
    have next : ∀ v, u32 v → ∃ ws, sha_words.l0 blk k (i + 1) (st w i v) = some ws ∧ ref02_Of.l1 off p k' (i + 1) (st w i v) = some ws ∧ ws.length = 64 ∧ ∀ x ∈ ws, u32 x := fun v hv =>
      ih (i + 1) k k' (st w i v) (by omega) (by omega) (by omega) (by omega) (by rw [st_length, hw]) (st_all hu hv) (fun j hj => by
        rw [gt_st _ _ _ _ (by omega) (by omega) (by rw [hw]; omega), if_neg (by omega)]
        exact hz j (by omega))
    by_cases h16 : i < 16
    · have h16' : decide (i < 16) = true := by simpa using h16
      have f0 : wi64 (4 * i) = 4 * i := wi64_id (by omega)
      have f1 : wi64 (4 * i + 1) = 4 * i + 1 := wi64_id (by omega)
      have f2 : wi64 (4 * i + 2) = 4 * i + 2 := wi64_id (by omega)
      have f3 : wi64 (4 * i + 3) = 4 * i + 3 := wi64_id (by omega)
      have hs : (blk.size : Int) = 64 := by omega
      have c0 : 0 ≤ 4 * i ∧ 4 * i < 64 := by omega
      have c1 : 0 ≤ 4 * i + 1 ∧ 4 * i + 1 < 64 := by omega
      have c2 : 0 ≤ 4 * i + 2 ∧ 4 * i + 2 < 64 := by omega
      have c3 : 0 ≤ 4 * i + 3 ∧ 4 * i + 3 < 64 := by omega
      have b0 := hbp (4 * i) (by omega) (by omega)
      have b1 := hbp (4 * i + 1) (by omega) (by omega)
      have b2 := hbp (4 * i + 2) (by omega) (by omega)
      have b3 := hbp (4 * i + 3) (by omega) (by omega)
      simp only [← Int.add_assoc] at b1 b2 b3
      obtain ⟨ws, h1, h2, h3, h4⟩ := next _ (be4_u32 (u8_bt p (off + 4 * i)) (u8_bt p (off + 4 * i + 1)) (u8_bt p (off + 4 * i + 2)) (u8_bt p (off + 4 * i + 3)))
      refine ⟨ws, ?_, ?_, h3, h4⟩
      · simp only [sha_words.l0, hlt, h16', if_true, f0, f1, f2, f3, hs, c0, c1, c2, c3, gi, and_self, Option.bind_some, e1, b0, b1, b2, b3]
        rw [loads (u8_bt _ _) (u8_bt _ _) (u8_bt _ _) (u8_bt _ _)]
        exact h1
      · simp only [ref02_Of.l1, hlt, h16', if_true, ref_l2 ⟨gi.1, h16⟩ ho hp hm hw (hz i (by omega)), Option.bind_some, e1]
        exact h2
    · have h16' : decide (i < 16) = false := by simpa using h16
      have f15 : wi64 (i - 15) = i - 15 := wi64_id (by omega)
      have f2 : wi64 (i - 2) = i - 2 := wi64_id (by omega)
      have f7 : wi64 (i - 7) = i - 7 := wi64_id (by omega)
      have f16 : wi64 (i - 16) = i - 16 := wi64_id (by omega)
      have c15 : 0 ≤ i - 15 ∧ i - 15 < 64 := by omega
      have c2 : 0 ≤ i - 2 ∧ i - 2 < 64 := by omega
      have c7 : 0 ≤ i - 7 ∧ i - 7 < 64 := by omega
      have c16 : 0 ≤ i - 16 ∧ i - 16 < 64 := by omega
      have u15 := gt_all hu u32_0 (i - 15)
      have u2 := gt_all hu u32_0 (i - 2)
      obtain ⟨a7, p1, q1, _⟩ := right_both u15 (n := 7) (by decide) (by decide)
      obtain ⟨a18, p2, q2, _⟩ := right_both u15 (n := 18) (by decide) (by decide)
      obtain ⟨a17, p3, q3, _⟩ := right_both u2 (n := 17) (by decide) (by decide)
      obtain ⟨a19, p4, q4, _⟩ := right_both u2 (n := 19) (by decide) (by decide)
      obtain ⟨s1, _⟩ := ref_shift u2 (n := 10) (by decide)
      obtain ⟨s2, _⟩ := ref_shift u15 (n := 3) (by decide)
      have k7 : ((7 : Nat) : Int) = 7 := rfl
      have k18 : ((18 : Nat) : Int) = 18 := rfl
      have k17 : ((17 : Nat) : Int) = 17 := rfl
      have k19 : ((19 : Nat) : Int) = 19 := rfl
      have k10 : ((10 : Nat) : Int) = 10 := rfl
      have k3 : ((3 : Nat) : Int) = 3 := rfl
      rw [k7] at p1 q1; rw [k18] at p2 q2; rw [k17] at p3 q3; rw [k19] at p4 q4; rw [k10] at s1; rw [k3] at s2
      generalize hx0 : bXor .u32 (bXor .u32 a7 a18) (bShr .u32 (gt w (i - 15)) 3) = X0
      generalize hx1 : bXor .u32 (bXor .u32 a17 a19) (bShr .u32 (gt w (i - 2)) 10) = X1
      obtain ⟨ws, h1, h2, h3, h4⟩ := next (wu32 (wu32 (wu32 (gt w (i - 16) + X0) + gt w (i - 7)) + X1)) (by rw [wu32_eq]; exact ⟨by omega, by omega⟩)
      refine ⟨ws, ?_, ?_, h3, h4⟩
      · simp only [sha_words.l0, hlt, h16', if_true, f15, f2, f7, f16, c15, c2, c7, c16, gi, and_self, p1, p2, p3, p4, Option.bind_some, e1, Bool.false_eq_true, if_false, hx0, hx1]
        exact h1
      · simp only [ref02_Of.l1, hlt, h16', if_true, f15, f2, f7, f16, c15, c2, c7, c16, gi, and_self, q1, q2, q3, q4, s1, s2, Option.bind_some, e1, Bool.false_eq_true, if_false, hx0, hx1]
        have : wu32 (wu32 (wu32 (X1 + gt w (i - 7)) + X0) + gt w (i - 16)) = wu32 (wu32 (wu32 (gt w (i - 16) + X0) + gt w (i - 7)) + X1) := by simp only [wu32_eq]; omega
        rw [this]
        exact h2
theorem words_both {blk p : ByteArray} {off : Int} (hb : blk.size = 64) (ho : 0 ≤ off) (hp : off + 64 ≤ p.size) (hm : (p.size : Int) ≤ 4611686018427387904) (hbp : ∀ j : Int, 0 ≤ j → j < 64 → bt blk j = bt p (off + j)) :
    ∃ ws, sha_words blk = some ws ∧ ref02_Of.l1 off p FU 0 (List.replicate 64 (0 : Int)) = some ws ∧ ws.length = 64 ∧ ∀ x ∈ ws, u32 x := by
  obtain ⟨ws, h1, h2, h3, h4⟩ := words_step hb ho hp hm hbp 64 0 FU FU (List.replicate 64 (0 : Int)) (by omega) (by omega) (by simp [FU]) (by simp [FU]) (by simp) (fun x hx => by rw [List.eq_of_mem_replicate hx]; exact u32_0)
    (fun j _ => gt_all (p := fun x => x = 0) (fun x hx => List.eq_of_mem_replicate hx) rfl j)
  exact ⟨ws, by unfold sha_words; rw [h1]; rfl, h2, h3, h4⟩
end Go.Cen

/- SHA: a block mixed in. -/
set_option linter.unusedVariables false
set_option linter.unusedSimpArgs false
namespace Go.Cen
theorem bNot_eq {x : Int} (hx : u32 x) : bNot .u32 x = wu32 (4294967295 - x) := by
  obtain ⟨n, rfl⟩ := Int.eq_ofNat_of_zero_le hx.1
  have hn : n < 2 ^ 32 := by have := hx.2; omega
  have e : (if IntKind.signed .u32 = true then (-1 : Int) else IntKind.max .u32) = ((4294967295 : Nat) : Int) := rfl
  have h : 4294967295 ^^^ n = 4294967295 - n := by
    have h1 : (BitVec.allOnes 32 ^^^ BitVec.ofNat 32 n).toNat = 4294967295 ^^^ n := by
      rw [BitVec.toNat_xor, BitVec.toNat_allOnes, BitVec.toNat_ofNat, Nat.mod_eq_of_lt hn]
    rw [BitVec.allOnes_xor, BitVec.toNat_not, BitVec.toNat_ofNat, Nat.mod_eq_of_lt hn] at h1
    omega
  unfold bNot
  rw [e, bXor_nat (k := .u32) rfl _ _ (by decide) hn, h, wu32_eq]
  omega
theorem list8 {x : List Int} (h : x.length = 8) : ∃ a b c d e f g i, x = [a, b, c, d, e, f, g, i] := by
  match x, h with
  | [a, b, c, d, e, f, g, i], _ => exact ⟨a, b, c, d, e, f, g, i, rfl⟩
theorem u32_wu32 (x : Int) : u32 (wu32 x) := by rw [wu32_eq]; exact ⟨by omega, by omega⟩
set_option maxHeartbeats 1000000 in
theorem mix_step (K ws : List Int) : ∀ (n : Nat) (i : Int) (k k' : Nat) (x : List Int), i = 64 - n → n ≤ 64 → n < k → n < k' → x.length = 8 → (∀ y ∈ x, u32 y) →
      ∃ r, sha_mix.l0 K ws k i x = some r ∧ ref02_Of.l3 K ws k' i x = some r ∧ r.length = 8 ∧ ∀ y ∈ r, u32 y := by
  intro n
  induction n with
  | zero =>
    intro i k k' x hi _ hk hk' hx hu
    obtain ⟨k, rfl⟩ : ∃ m, k = m + 1 := ⟨k - 1, by omega⟩
    obtain ⟨k', rfl⟩ : ∃ m, k' = m + 1 := ⟨k' - 1, by omega⟩
    have : decide (i < 64) = false := by simp; omega
    simp only [sha_mix.l0, ref02_Of.l3, this, Bool.false_eq_true, if_false]
    exact ⟨x, rfl, rfl, hx, hu⟩
  | succ n ih =>
    intro i k k' x hi hd hk hk' hx hu
    obtain ⟨k, rfl⟩ : ∃ m, k = m + 1 := ⟨k - 1, by omega⟩
    obtain ⟨k', rfl⟩ : ∃ m, k' = m + 1 := ⟨k' - 1, by omega⟩
    have hlt : decide (i < 64) = true := by simp; omega
    have e1 : wi64 (i + 1) = i + 1 := wi64_id (by omega)
    have gi : 0 ≤ i ∧ i < 64 := ⟨by omega, by omega⟩
    obtain ⟨a, b, c, d, e, f, g, h, rfl⟩ := list8 hx
    have ua : u32 a := hu a (by simp)
    have ue : u32 e := hu e (by simp)
    obtain ⟨r6, p1, q1, _⟩ := right_both ue (n := 6) (by decide) (by decide)
    obtain ⟨r11, p2, q2, _⟩ := right_both ue (n := 11) (by decide) (by decide)
    obtain ⟨r25, p3, q3, _⟩ := right_both ue (n := 25) (by decide) (by decide)
    obtain ⟨r2, p4, q4, _⟩ := right_both ua (n := 2) (by decide) (by decide)
    obtain ⟨r13, p5, q5, _⟩ := right_both ua (n := 13) (by decide) (by decide)
    obtain ⟨r22, p6, q6, _⟩ := right_both ua (n := 22) (by decide) (by decide)
    have c6 : ((6 : Nat) : Int) = 6 := rfl
    have c11 : ((11 : Nat) : Int) = 11 := rfl
    have c25 : ((25 : Nat) : Int) = 25 := rfl
    have c2 : ((2 : Nat) : Int) = 2 := rfl
    have c13 : ((13 : Nat) : Int) = 13 := rfl
    have c22 : ((22 : Nat) : Int) = 22 := rfl
    rw [c6] at p1 q1; rw [c11] at p2 q2; rw [c25] at p3 q3; rw [c2] at p4 q4; rw [c13] at p5 q5; rw [c22] at p6 q6
    have g0 : gt [a, b, c, d, e, f, g, h] 0 = a := rfl
    have g1 : gt [a, b, c, d, e, f, g, h] 1 = b := rfl
    have g2 : gt [a, b, c, d, e, f, g, h] 2 = c := rfl
    have g3 : gt [a, b, c, d, e, f, g, h] 3 = d := rfl
    have g4 : gt [a, b, c, d, e, f, g, h] 4 = e := rfl
    have g5 : gt [a, b, c, d, e, f, g, h] 5 = f := rfl
    have g6 : gt [a, b, c, d, e, f, g, h] 6 = g := rfl
    have g7 : gt [a, b, c, d, e, f, g, h] 7 = h := rfl
    have hc : cpy [a, b, c, d, e, f, g, h] 1 0 7 = [a, a, b, c, d, e, f, g] := rfl
    have hs0 : ∀ v, st [a, a, b, c, d, e, f, g] 0 v = [v, a, b, c, d, e, f, g] := fun v => rfl
    have hg4 : ∀ v, gt [v, a, b, c, d, e, f, g] 4 = d := fun v => rfl
    have hs4 : ∀ v u, st [v, a, b, c, d, e, f, g] 4 u = [v, a, b, c, u, e, f, g] := fun v u => rfl
    obtain ⟨r, h1, h2, h3, h4⟩ := ih (i + 1) k k' (by omega) (by omega) (by omega) (by omega) (x := [wu32 (wu32 (wu32 (wu32 (wu32 (h + bXor .u32 (bXor .u32 r6 r11) r25) + bXor .u32 (bAnd .u32 e f) (bAnd .u32 (wu32 (4294967295 - e)) g)) + gt K i) + gt ws i) + wu32 (bXor .u32 (bXor .u32 r2 r13) r22 + bXor .u32 (bXor .u32 (bAnd .u32 a b) (bAnd .u32 a c)) (bAnd .u32 b c))), a, b, c,
      wu32 (d + wu32 (wu32 (wu32 (wu32 (h + bXor .u32 (bXor .u32 r6 r11) r25) + bXor .u32 (bAnd .u32 e f) (bAnd .u32 (wu32 (4294967295 - e)) g)) + gt K i) + gt ws i)), e, f, g]) rfl (by
        intro y hy
        simp only [List.mem_cons, List.not_mem_nil, or_false] at hy
        rcases hy with rfl | rfl | rfl | rfl | rfl | rfl | rfl | rfl <;> first | exact u32_wu32 _ | exact hu _ (by simp))
    refine ⟨r, ?_, ?_, h3, h4⟩
    · simp only [sha_mix.l0, hlt, if_true, gi, and_self, g0, g1, g2, g3, g4, g5, g6, g7, p1, p2, p3, p4, p5, p6, Option.bind_some, e1, hc, hs0, hg4, hs4, bNot_eq ue]
      exact h1
    · simp only [ref02_Of.l3, hlt, if_true, gi, and_self, g0, g1, g2, g3, g4, g5, g6, g7, q1, q2, q3, q4, q5, q6, Option.bind_some, e1]
      exact h2
theorem add_step (y : List Int) : ∀ (n : Nat) (i : Int) (k k' : Nat) (x : List Int), i = 8 - n → n ≤ 8 → n < k → n < k' → x.length = 8 → (∀ y ∈ x, u32 y) →
      ∃ r, sha_mix.l1 y k i x = some r ∧ ref02_Of.l4 y k' i x = some r ∧ r.length = 8 ∧ ∀ y ∈ r, u32 y := by
  intro n
  induction n with
  | zero =>
    intro i k k' x hi _ hk hk' hx hu
    obtain ⟨k, rfl⟩ : ∃ m, k = m + 1 := ⟨k - 1, by omega⟩
    obtain ⟨k', rfl⟩ : ∃ m, k' = m + 1 := ⟨k' - 1, by omega⟩
    have : decide (i < 8) = false := by simp; omega
    simp only [sha_mix.l1, ref02_Of.l4, this, Bool.false_eq_true, if_false]
    exact ⟨x, rfl, rfl, hx, hu⟩
  | succ n ih =>
    intro i k k' x hi hd hk hk' hx hu
    obtain ⟨k, rfl⟩ : ∃ m, k = m + 1 := ⟨k - 1, by omega⟩
    obtain ⟨k', rfl⟩ : ∃ m, k' = m + 1 := ⟨k' - 1, by omega⟩
    have hlt : decide (i < 8) = true := by simp; omega
    have e1 : wi64 (i + 1) = i + 1 := wi64_id (by omega)
    have gi : 0 ≤ i ∧ i < 8 := ⟨by omega, by omega⟩
    obtain ⟨r, h1, h2, h3, h4⟩ := ih (i + 1) k k' (st x i (wu32 (gt x i + gt y i))) (by omega) (by omega) (by omega) (by omega) (by rw [st_length, hx]) (st_all hu (u32_wu32 _))
    refine ⟨r, ?_, ?_, h3, h4⟩
    · simp only [sha_mix.l1, hlt, if_true, gi, and_self, e1]; exact h1
    · simp only [ref02_Of.l4, hlt, if_true, gi, and_self, e1]; exact h2
/-- One block, both ways. -/
theorem block_both (K : List Int) {blk p : ByteArray} {off : Int} {x : List Int} (hb : blk.size = 64) (ho : 0 ≤ off) (hp : off + 64 ≤ p.size) (hm : (p.size : Int) ≤ 4611686018427387904) (hbp : ∀ j : Int, 0 ≤ j → j < 64 → bt blk j = bt p (off + j))
    (hx : x.length = 8) (hu : ∀ y ∈ x, u32 y) : ∃ ws y r, ref02_Of.l1 off p FU 0 (List.replicate 64 (0 : Int)) = some ws ∧ ref02_Of.l3 K ws FU 0 x = some y ∧ ref02_Of.l4 y FU 0 x = some r ∧ sha_mix x K blk = some r ∧ r.length = 8 ∧ ∀ y ∈ r, u32 y := by
  obtain ⟨ws, h1, h2, _, _⟩ := words_both hb ho hp hm hbp
  obtain ⟨y, h3, h4, h5, h6⟩ := mix_step K ws 64 0 FU FU x (by omega) (by omega) (by simp [FU]) (by simp [FU]) hx hu
  obtain ⟨r, h7, h8, h9, h10⟩ := add_step y 8 0 FU FU x (by omega) (by omega) (by simp [FU]) (by simp [FU]) hx hu
  refine ⟨ws, y, r, h2, h4, h8, ?_, h9, h10⟩
  unfold sha_mix
  rw [h1]; simp only [Option.bind_some]; rw [h3]; simp only [Option.bind_some]; rw [h7]; rfl
/-! ### what is put behind a text -/
def zerosN (n : Nat) : Nat := (119 - n % 64) % 64
def be8 (n : Nat) : List Int := [n / 2 ^ 56 % 256, n / 2 ^ 48 % 256, n / 2 ^ 40 % 256, n / 2 ^ 32 % 256, n / 2 ^ 24 % 256, n / 2 ^ 16 % 256, n / 2 ^ 8 % 256, n % 256]
def padL (xs : List Int) : List Int := xs ++ [128] ++ List.replicate (zerosN xs.length) 0 ++ be8 (8 * xs.length)
theorem pad_l0 : ∀ (z k : Nat) (x : List Int), z < k → (x.length + z) % 64 = 56 → (∀ j, j < z → (x.length + j) % 64 ≠ 56) → x.length + z ≤ LIM → sha_Pad.l0 k x = some (x ++ List.replicate z 0) ∧ ref02_Pad.l0 k x = some (x ++ List.replicate z 0) := by
  intro z
  induction z with
  | zero =>
    intro k x hk h _ _
    obtain ⟨k, rfl⟩ : ∃ m, k = m + 1 := ⟨k - 1, by omega⟩
    have e : ((x.length : Int).tmod 64 != 56) = false := by
      rw [Int.tmod_eq_emod_of_nonneg (by omega)]
      have : (x.length : Int) % 64 = 56 := by omega
      rw [this]; rfl
    simp only [sha_Pad.l0, ref02_Pad.l0, e, Bool.false_eq_true, if_false, List.replicate_zero, List.append_nil, and_self]
  | succ z ih =>
    intro k x hk h hn hl
    obtain ⟨k, rfl⟩ : ∃ m, k = m + 1 := ⟨k - 1, by omega⟩
    have e : ((x.length : Int).tmod 64 != 56) = true := by
      rw [Int.tmod_eq_emod_of_nonneg (by omega)]
      have := hn 0 (by omega)
      simp only [bne_iff_ne, ne_eq]; omega
    have hg : x.length + ([0] : List Int).length ≤ LIM := by simp; omega
    have := ih k (x ++ [0]) (by omega) (by simp; omega) (fun j hj => by have := hn (j + 1) (by omega); simp; omega) (by simp; omega)
    simp only [sha_Pad.l0, ref02_Pad.l0, e, if_true, hg]
    rw [this.1, this.2]
    simp [List.replicate_succ]
theorem padN_facts (n : Nat) : zerosN n < 64 ∧ (n + 1 + zerosN n) % 64 = 56 ∧ ∀ j, j < zerosN n → (n + 1 + j) % 64 ≠ 56 := by
  unfold zerosN; refine ⟨by omega, by omega, fun j hj => by omega⟩
end Go.Cen

/- SHA: what is put behind a text; the digest of any text. -/
set_option linter.unusedVariables false
set_option linter.unusedSimpArgs false
namespace Go.Cen
theorem padL_length (xs : List Int) : (padL xs).length = xs.length + 1 + zerosN xs.length + 8 := by simp [padL, be8]; omega
theorem padL_mod (xs : List Int) : (padL xs).length % 64 = 0 := by
  have := (padN_facts xs.length).2.1
  rw [padL_length]; omega
theorem be8_isB (n : Nat) : isB (be8 n) := by
  intro x hx
  simp only [be8, List.mem_cons, List.not_mem_nil, or_false] at hx
  rcases hx with rfl | rfl | rfl | rfl | rfl | rfl | rfl | rfl <;> omega
theorem padL_isB {xs : List Int} (h : isB xs) : isB (padL xs) := by
  intro x hx
  simp only [padL, List.mem_append, List.mem_cons, List.not_mem_nil, or_false] at hx
  rcases hx with ((hx | rfl) | hx) | hx
  · exact h x hx
  · omega
  · rw [List.eq_of_mem_replicate hx]; omega
  · exact be8_isB _ x hx
theorem sha_l1 {a : ByteArray} (ha : a.size ≤ 1000000000000) {x : List Int} (hx : x.length ≤ 1000000000100) : sha_Pad.l1 a FU x 7 = some (x ++ be8 (8 * a.size)) := by
  obtain ⟨m, hF, _⟩ := FU_succ 9 (by omega)
  rw [hF]
  have hs : wu64 (a.size : Int) = (a.size : Int) := by rw [wu64_eq]; omega
  have h3 : bShl .u64 (a.size : Int) 3 = ((8 * a.size : Nat) : Int) := by
    simp [bShl, IntKind.bits, IntKind.wrap, IntKind.signed]; omega
  have sh : ∀ (v : Int) (i : Nat), i ≤ 64 → wu8 (bShr .u64 v (i : Int)) = v / 2 ^ i % 256 := fun v i hi => by rw [bShr_eq (by show i ≤ 64; omega), wu8_eq]
  have d7 : wi64 (7 - 1) = 6 := by decide +kernel
  have d6 : wi64 (6 - 1) = 5 := by decide +kernel
  have d5 : wi64 (5 - 1) = 4 := by decide +kernel
  have d4 : wi64 (4 - 1) = 3 := by decide +kernel
  have d3 : wi64 (3 - 1) = 2 := by decide +kernel
  have d2 : wi64 (2 - 1) = 1 := by decide +kernel
  have d1 : wi64 (1 - 1) = 0 := by decide +kernel
  have d0 : wi64 (0 - 1) = -1 := by decide +kernel
  have m7 : wi64 (8 * 7) = 56 := by decide +kernel
  have m6 : wi64 (8 * 6) = 48 := by decide +kernel
  have m5 : wi64 (8 * 5) = 40 := by decide +kernel
  have m4 : wi64 (8 * 4) = 32 := by decide +kernel
  have m3 : wi64 (8 * 3) = 24 := by decide +kernel
  have m2 : wi64 (8 * 2) = 16 := by decide +kernel
  have m1 : wi64 (8 * 1) = 8 := by decide +kernel
  have m0 : wi64 (8 * 0) = 0 := by decide +kernel
  have hl : ∀ ys : List Int, ys.length ≤ 8 → ∀ v : Int, (x ++ ys).length + ([v] : List Int).length ≤ LIM := fun ys hy v => by simp [LIM]; omega
  have hl0 : ∀ v : Int, x.length + ([v] : List Int).length ≤ LIM := fun v => by simp [LIM]; omega
  have c7 : decide ((7 : Int) ≥ 0) = true := rfl
  have c6 : decide ((6 : Int) ≥ 0) = true := rfl
  have c5 : decide ((5 : Int) ≥ 0) = true := rfl
  have c4 : decide ((4 : Int) ≥ 0) = true := rfl
  have c3 : decide ((3 : Int) ≥ 0) = true := rfl
  have c2 : decide ((2 : Int) ≥ 0) = true := rfl
  have c1 : decide ((1 : Int) ≥ 0) = true := rfl
  have c0 : decide ((0 : Int) ≥ 0) = true := rfl
  have c_ : decide ((-1 : Int) ≥ 0) = false := rfl
  have z : ∀ n : Nat, (0 : Int) ≤ (n : Int) := fun n => by omega
  have z56 : (0 : Int) ≤ 56 := by decide
  have z48 : (0 : Int) ≤ 48 := by decide
  have z40 : (0 : Int) ≤ 40 := by decide
  have z32 : (0 : Int) ≤ 32 := by decide
  have z24 : (0 : Int) ≤ 24 := by decide
  have z16 : (0 : Int) ≤ 16 := by decide
  have z8 : (0 : Int) ≤ 8 := by decide
  simp only [sha_Pad.l1, c7, c6, c5, c4, c3, c2, c1, c0, c_, if_true, m7, m6, m5, m4, m3, m2, m1, m0, hs, h3, z56, z48, z40, z32, z24, z16, z8, Int.le_refl, d7, d6, d5, d4, d3, d2, d1, d0, Bool.false_eq_true, if_false, List.append_assoc, hl0,
    hl _ (by simp : ([_] : List Int).length ≤ 8)]
  simp only [List.cons_append, List.nil_append]
  repeat rw [if_pos (hl _ (by simp) _)]
  have k56 := sh (8 * (a.size : Int)) 56 (by omega)
  have k48 := sh (8 * (a.size : Int)) 48 (by omega)
  have k40 := sh (8 * (a.size : Int)) 40 (by omega)
  have k32 := sh (8 * (a.size : Int)) 32 (by omega)
  have k24 := sh (8 * (a.size : Int)) 24 (by omega)
  have k16 := sh (8 * (a.size : Int)) 16 (by omega)
  have k8 := sh (8 * (a.size : Int)) 8 (by omega)
  have k0 := sh (8 * (a.size : Int)) 0 (by omega)
  simp [be8]
  refine ⟨?_, ?_, ?_, ?_, ?_, ?_, ?_, ?_⟩
  · simpa using k56
  · simpa using k48
  · simpa using k40
  · simpa using k32
  · simpa using k24
  · simpa using k16
  · simpa using k8
  · simpa using k0
theorem ref_l1 {n : Nat} (hn : n ≤ 1000000000000) : ref02_Pad.l1 FU ((8 * n : Nat) : Int) [] 0 = some (be8 (8 * n)) := by
  obtain ⟨m, hF, _⟩ := FU_succ 9 (by omega)
  rw [hF]
  have step : ∀ (v : Nat) (ys : List Int) (i : Int) (k : Nat), v < 2 ^ 63 → ys.length ≤ 8 → 0 ≤ i → i < 8 → ref02_Pad.l1 (k + 1) (v : Int) ys i = ref02_Pad.l1 k ((v / 256 : Nat) : Int) (((v % 256 : Nat) : Int) :: ys) (i + 1) := by
    intro v ys i k hv hy h0 h8
    have d : decide (i < 8) = true := by simpa using h8
    have e1 : wi64 (i + 1) = i + 1 := wi64_id (by omega)
    have e2 : (v : Int).tmod 256 = ((v % 256 : Nat) : Int) := by rw [Int.tmod_eq_emod_of_nonneg (by omega)]; rfl
    have e3 : (v : Int).tdiv 256 = ((v / 256 : Nat) : Int) := by rw [Int.tdiv_eq_ediv_of_nonneg (by omega)]; rfl
    have e4 : wu8 ((v % 256 : Nat) : Int) = ((v % 256 : Nat) : Int) := by rw [wu8_eq]; omega
    have e5 : wu64 ((v / 256 : Nat) : Int) = ((v / 256 : Nat) : Int) := by rw [wu64_eq]; omega
    have hl : ([((v % 256 : Nat) : Int)] : List Int).length + ys.length ≤ LIM := by simp [LIM]; omega
    simp only [ref02_Pad.l1, d, if_true, e1, e2, e3, e4, e5, hl, List.cons_append, List.nil_append]
  have hv : 8 * n < 2 ^ 63 := by omega
  have r : ∀ v j : Nat, v / 256 ^ j / 256 = v / 256 ^ (j + 1) := fun v j => by rw [Nat.div_div_eq_div_mul, Nat.pow_succ]
  rw [step (8 * n) [] 0 _ hv (by simp) (by omega) (by omega)]
  rw [step (8 * n / 256) _ _ _ (by omega) (by simp) (by omega) (by omega)]
  rw [step (8 * n / 256 / 256) _ _ _ (by omega) (by simp) (by omega) (by omega)]
  rw [step (8 * n / 256 / 256 / 256) _ _ _ (by omega) (by simp) (by omega) (by omega)]
  rw [step (8 * n / 256 / 256 / 256 / 256) _ _ _ (by omega) (by simp) (by omega) (by omega)]
  rw [step (8 * n / 256 / 256 / 256 / 256 / 256) _ _ _ (by omega) (by simp) (by omega) (by omega)]
  rw [step (8 * n / 256 / 256 / 256 / 256 / 256 / 256) _ _ _ (by omega) (by simp) (by omega) (by omega)]
  rw [step (8 * n / 256 / 256 / 256 / 256 / 256 / 256 / 256) _ _ _ (by omega) (by simp) (by omega) (by omega)]
  simp only [ref02_Pad.l1, show decide ((0 : Int) + 1 + 1 + 1 + 1 + 1 + 1 + 1 + 1 < 8) = false from rfl, Bool.false_eq_true, if_false, be8]
  congr 1
  refine List.cons_eq_cons.2 ⟨by omega, List.cons_eq_cons.2 ⟨by omega, List.cons_eq_cons.2 ⟨by omega, List.cons_eq_cons.2 ⟨by omega, List.cons_eq_cons.2 ⟨by omega, List.cons_eq_cons.2 ⟨by omega, List.cons_eq_cons.2 ⟨by omega, List.cons_eq_cons.2 ⟨by omega, rfl⟩⟩⟩⟩⟩⟩⟩⟩
/-- WHAT IS PUT BEHIND A TEXT: both alike. -/
theorem pad_both {a : ByteArray} (ha : a.size ≤ 1000000000000) : sha_Pad a = some (strOfNums (padL (byts a))) ∧ ref02_Pad a = some (strOfNums (padL (byts a))) := by
  obtain ⟨p1, p2, p3⟩ := padN_facts (byts a).length
  have hb := byts_length a
  obtain ⟨h1, h2⟩ := pad_l0 (zerosN (byts a).length) FU (byts a ++ [128]) (by simp [FU]; omega) (by simp; omega) (fun j hj => by have := p3 j hj; simp; omega) (by simp [LIM]; omega)
  have g1 : a.size ≤ LIM := by simp [LIM]; omega
  have g2 : (byts a).length + ([128] : List Int).length ≤ LIM := by simp [LIM]; omega
  have hx : (byts a ++ [128] ++ List.replicate (zerosN (byts a).length) (0 : Int)).length ≤ 1000000000100 := by simp; omega
  constructor
  · unfold sha_Pad
    rw [if_pos g1, if_pos g2, h1]
    simp only [Option.bind_some]
    rw [sha_l1 ha hx]
    simp only [Option.bind_some, padL, hb]
  · unfold ref02_Pad
    have e : wu64 (wu64 (a.size : Int) * 8) = ((8 * a.size : Nat) : Int) := by rw [wu64_eq, wu64_eq]; omega
    rw [if_pos g1, if_pos g2, h2, e, ref_l1 ha]
    simp only [Option.bind_some]
    rw [if_pos (by simp only [be8, LIM, List.length_cons, List.length_nil]; omega)]
    simp only [padL, hb]
end Go.Cen
