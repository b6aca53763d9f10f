/- EVENT: whether an event may be, and its bytes. -/
import Derived.Test.YtlojedndicppeaaGreatDoorGUtf8A
import Derived.Test.YtlojedndicppeaaGreatDoorCenPl
import Derived.Test.YtlojedndicppeaaGreatDoorPx
import Derived.Test.YtlojedndicppeaaGreatDoorCenMa
set_option linter.unusedVariables false
set_option linter.unusedSimpArgs false
namespace Go.Cen
def z32 : List Int := List.replicate 32 0
def nmOk (s : ByteArray) : Bool := validN (byts s)
theorem name_Valid_eq (s : ByteArray) (h : s.size ≤ 100000) : name_Valid s = some (nmOk s) := by
  have := name_Valid_str (l := byts s) (byts_isB s) (by rw [byts_len]; exact Nat.le_trans h (by decide))
  rwa [strOfNums_byts] at this
def timeOk (t : Int) : Bool := decide (0 ≤ t) && decide (t ≤ 1099511627776)
def idOk (i : Int) : Bool := decide (1 ≤ i) && decide (i ≤ 1099511627776)
def lenOk (lo n : Int) : Bool := decide (lo ≤ n) && decide (n ≤ 600)
def noS (s : ByteArray) : Bool := seq s (⟨#[]⟩ : ByteArray)
def noD (d : List Int) : Bool := eqA d z32
theorem within_eq (a b c : Int) : event_within a b c = some (decide (b ≤ a) && decide (a ≤ c)) := by
  unfold event_within
  by_cases h : b ≤ a
  · simp [h]
  · simp [h]
/-- what an event tells -/
def partsE (e : ApiEvent) : List Dyn88 :=
  if e.Kind = 0 ∨ e.Kind = 4 ∨ e.Kind = 5 then [.i111 e.ID, .i108 e.Name] else if e.Kind = 1 then [.i111 e.ID, .i111 e.Len] else if e.Kind = 2 then [.i111 e.ID, .i111 e.Time, .i111 e.Len, .i112 e.Sum]
  else if e.Kind = 3 then [.i111 e.ID, .i111 e.Time] else if e.Kind = 6 then [.i111 e.ID] else if e.Kind = 7 then [.i111 e.Time] else []
theorem parts_eq (e : ApiEvent) : event_parts e = some (partsE e) := by
  unfold event_parts partsE
  by_cases h0 : e.Kind = 0
  · simp [h0]
  · by_cases h4 : e.Kind = 4
    · simp [h4]
    · by_cases h5 : e.Kind = 5
      · simp [h5]
      · by_cases h1 : e.Kind = 1
        · simp [h1]
        · by_cases h2 : e.Kind = 2
          · simp [h2]
          · by_cases h3 : e.Kind = 3
            · simp [h3]
            · by_cases h6 : e.Kind = 6
              · simp [h6]
              · by_cases h7 : e.Kind = 7
                · simp [h7]
                · simp [h0, h1, h2, h3, h4, h5, h6, h7]
def okD (d : Dyn88) : Prop := match d with | .nil => False | .i111 _ => True | .i108 s => s.size ≤ 100000 | .i112 d => d.length = 32 ∧ isB d
def okE (e : ApiEvent) : Prop := e.Name.size ≤ 100000 ∧ e.Sum.length = 32 ∧ isB e.Sum
theorem parts_ok {e : ApiEvent} (h : okE e) : ∀ d ∈ partsE e, okD d := by
  intro d hd
  unfold partsE at hd
  repeat' split at hd
  all_goals simp at hd
  all_goals (try (rcases hd with rfl | rfl | rfl | rfl) <;> (try trivial) <;> first | exact h.1 | exact h.2)
  all_goals (try (rcases hd with rfl | rfl) <;> (try trivial) <;> first | exact h.1 | exact h.2)
  all_goals (try subst hd; trivial)
theorem parts_len (e : ApiEvent) : (partsE e).length ≤ 4 := by
  unfold partsE
  repeat' split
  all_goals simp
def nums : List Dyn88 → List Int
  | [] => []
  | .i111 a :: r => a :: nums r
  | _ :: r => nums r
def upd : List Dyn88 → ApiEvent → ApiEvent
  | [], e => e
  | .i108 s :: r, e => upd r { e with Name := s }
  | .i112 d :: r, e => upd r { e with Sum := d }
  | _ :: r, e => upd r e
theorem of_l0 (l : List Dyn88) (hl : ∀ d ∈ l, okD d) (hn : l.length ≤ 1000) (e : ApiEvent) : event_of.l0 l FU [] 0 e = some (nums l, upd l e) := by
  have hL := LIM_val
  have := loopI l (by omega) (fun k i (s : List Int × ApiEvent) => event_of.l0 l k s.1 i s.2) (fun r s => some (s.1 ++ nums r, upd r s.2)) (fun r s => s.1.length + r.length ≤ 1000)
    (fun k s hd hI => by simp only [event_of.l0, hd, nums, upd, List.append_nil]; rfl)
    (fun k i x r s hi hlen hm hd hg hx hw hI ih => by
      have hok := hl x hm
      simp only [List.length_cons] at hI
      simp only [event_of.l0, hd, if_true, hg, and_self, hx]
      cases x with
      | nil => exact hok.elim
      | i111 a =>
        have hq : s.1.length + ([a] : List Int).length ≤ LIM := by simp only [List.length_cons, List.length_nil]; omega
        simp only [hq, if_true, Option.bind_some, hw]
        have := ih (s.1 ++ [a], s.2) (by simp only [List.length_append, List.length_cons, List.length_nil]; omega)
        simp only at this
        rw [this]; simp [nums, upd]
      | i108 a =>
        simp only [Option.bind_some, hw]
        have := ih (s.1, { s.2 with Name := a }) (by simp only; omega)
        simp only at this
        rw [this]; simp [nums, upd]
      | i112 a =>
        simp only
        rw [if_pos hok.1]
        simp only [Option.bind_some, hw]
        have := ih (s.1, { s.2 with Sum := a }) (by simp only; omega)
        simp only at this
        rw [this]; simp [nums, upd]) ([], e) (by simpa using hn)
  simpa using this
/-- the last name among parts -/
def namedL : List Dyn88 → Bool → Bool
  | [], b => b
  | .i108 s :: r, _ => namedL r (nmOk s)
  | _ :: r, b => namedL r b
theorem valid_l0 (l : List Dyn88) (hl : ∀ d ∈ l, okD d) (hn : l.length ≤ 1000) (b : Bool) : event_Valid.l0 l FU b 0 = some (namedL l b) := by
  have := loopG l (by omega) (fun k i (s : Bool) => event_Valid.l0 l k s i) (fun r s => some (namedL r s))
    (fun k s hd => by simp only [event_Valid.l0, hd, namedL]; rfl)
    (fun k i x r s hi hlen hd hg hx hw ih => by
      have hm : x ∈ l := by rw [← hx, gt_nat l i hi]; exact List.getElem_mem _
      have hok := hl x hm
      simp only [event_Valid.l0, hd, if_true, hg, and_self, hx]
      cases x with
      | nil => exact hok.elim
      | i111 a => simp only [Option.bind_some, hw]; rw [ih]; simp [namedL]
      | i108 a => simp only [name_Valid_eq a hok, Option.bind_some, hw]; rw [ih]; simp [namedL]
      | i112 a =>
        simp only
        rw [if_pos hok.1]
        simp only [Option.bind_some, hw]; rw [ih]; simp [namedL]) b
  exact this
def bytD : Dyn88 → List Int
  | .nil => []
  | .i111 a => numL (clampN a)
  | .i108 s => numL (clampN (s.size : Int)) ++ byts s
  | .i112 d => d
theorem clampN_len (a : Int) : (numL (clampN a)).length ≤ 8 := numL_len 7 (clampN a) (by have := clampN_le a; omega)
theorem bytD_isB {d : Dyn88} (h : okD d) : isB (bytD d) := by
  cases d with
  | nil => exact isB_nil
  | i111 a => exact numL_isB _
  | i108 s => exact isB_app (numL_isB _) (byts_isB s)
  | i112 d => exact h.2
def validE (e : ApiEvent) : Bool :=
  if e.Kind = 0 ∨ e.Kind = 4 ∨ e.Kind = 5 then idOk e.ID && (nmOk e.Name && ((e.Time == 0) && ((e.Len == 0) && noD e.Sum)))
  else if e.Kind = 1 then idOk e.ID && (noS e.Name && ((e.Time == 0) && (lenOk 1 e.Len && noD e.Sum)))
  else if e.Kind = 2 then idOk e.ID && (noS e.Name && (timeOk e.Time && lenOk 0 e.Len))
  else if e.Kind = 3 then idOk e.ID && (noS e.Name && (timeOk e.Time && ((e.Len == 0) && noD e.Sum)))
  else if e.Kind = 6 then idOk e.ID && (noS e.Name && ((e.Time == 0) && ((e.Len == 0) && noD e.Sum)))
  else if e.Kind = 7 then (e.ID == 0) && (noS e.Name && (timeOk e.Time && ((e.Len == 0) && noD e.Sum)))
  else false
theorem seq_symm (a b : ByteArray) : seq a b = seq b a := by rw [Bool.eq_iff_iff, seq_iff, seq_iff]; exact eq_comm
theorem eqA_symm (a b : List Int) : eqA a b = eqA b a := by rw [Bool.eq_iff_iff, eqA_iff, eqA_iff]; exact eq_comm
theorem seq_refl (s : ByteArray) : seq s s = true := (seq_iff s s).2 rfl
theorem eqA_refl (s : List Int) : eqA s s = true := (eqA_iff s s).2 rfl
end Go.Cen

/- EVENT: whether an event may be, and its bytes: both sides. -/
set_option linter.unusedVariables false
set_option linter.unusedSimpArgs false
namespace Go.Cen
def ofE (e : ApiEvent) : ApiEvent :=
  if e.Kind = 0 ∨ e.Kind = 4 ∨ e.Kind = 5 then ⟨e.Kind, e.ID, e.Name, 0, 0, z32⟩ else if e.Kind = 1 then ⟨e.Kind, e.ID, ⟨#[]⟩, 0, e.Len, z32⟩ else if e.Kind = 2 then ⟨e.Kind, e.ID, ⟨#[]⟩, e.Time, e.Len, e.Sum⟩
  else if e.Kind = 3 then ⟨e.Kind, e.ID, ⟨#[]⟩, e.Time, 0, z32⟩ else if e.Kind = 6 then ⟨e.Kind, e.ID, ⟨#[]⟩, 0, 0, z32⟩ else ⟨e.Kind, 0, ⟨#[]⟩, e.Time, 0, z32⟩
theorem of_l0' {k : Int} {l : List Dyn88} (hl : ∀ d ∈ l, okD d) (hn : l.length ≤ 1000) : event_of.l0 l FU ([] : List Int) 0 (ApiEvent.mk k 0 (⟨#[]⟩ : ByteArray) 0 0 (List.replicate 32 (0 : Int))) = some (nums l, upd l ⟨k, 0, ⟨#[]⟩, 0, 0, z32⟩) := of_l0 l hl hn _
theorem gt2 (a b c : Int) : gt [a, b, c] 2 = c := rfl
theorem gt1 (a b : Int) (r : List Int) : gt (a :: b :: r) 1 = b := rfl
theorem gt0' (a : Int) (r : List Int) : gt (a :: r) 0 = a := rfl
theorem kinds (k : Int) : k = 0 ∨ k = 4 ∨ k = 5 ∨ k = 1 ∨ k = 2 ∨ k = 3 ∨ k = 6 ∨ k = 7 ∨ (k ≠ 0 ∧ k ≠ 4 ∧ k ≠ 5 ∧ k ≠ 1 ∧ k ≠ 2 ∧ k ≠ 3 ∧ k ≠ 6 ∧ k ≠ 7) := by omega
theorem of_eq {e : ApiEvent} (h : okE e) (hk : partsE e ≠ []) : event_of e.Kind (partsE e) = some (ofE e) := by
  have hp := parts_ok h
  have hl := parts_len e
  unfold event_of
  rw [of_l0' hp (by omega)]
  rcases kinds e.Kind with k | k | k | k | k | k | k | k | ⟨k0, k4, k5, k1, k2, k3, k6, k7⟩
  all_goals first
    | (simp [partsE, ofE, k, nums, upd, gt2, gt1, gt0']; done)
    | (exfalso; exact hk (by simp [partsE, k0, k1, k2, k3, k4, k5, k6, k7]))
def leastE (e : ApiEvent) : Int := if e.Kind = 1 then 1 else 0
theorem event_Valid_raw {e : ApiEvent} (h : okE e) : event_Valid e = some (if partsE e = [] then false else (eq_ApiEvent (ofE e) e && (namedL (partsE e) true && ((e.Kind == 7 || idOk e.ID) && (timeOk e.Time && lenOk (leastE e) e.Len))))) := by
  have hp := parts_ok h
  have hl := parts_len e
  unfold event_Valid
  rw [parts_eq]
  simp only [Option.bind_some]
  by_cases hk : partsE e = []
  · rw [if_pos hk]
    simp [hk]
  · have hn : (((partsE e).length : Int) == 0) = false := by
      have := List.length_pos_iff.2 hk
      simp; exact hk
    rw [if_neg hk, hn, of_eq h hk]
    simp only [Bool.false_eq_true, if_false, Option.bind_some, valid_l0 _ hp (by omega), within_eq]
    have hm : (if (e.Kind == 1) = true then some (1 : Int) else some 0) = some (leastE e) := by unfold leastE; by_cases q : e.Kind = 1 <;> simp [q]
    rw [hm]
    simp only [Option.bind_some, idOk, timeOk, lenOk]
    cases eq_ApiEvent (ofE e) e <;> cases namedL (partsE e) true <;> cases q : e.Kind == 7 <;> cases (decide (1 ≤ e.ID) && decide (e.ID ≤ 1099511627776)) <;> cases (decide (0 ≤ e.Time) && decide (e.Time ≤ 1099511627776)) <;> simp [q]
theorem noS_eq (s : ByteArray) : noS s = true ↔ s = ⟨#[]⟩ := seq_iff s _
theorem event_Valid_eq {e : ApiEvent} (h : okE e) : event_Valid e = some (validE e) := by
  rw [event_Valid_raw h]
  congr 1
  rcases kinds e.Kind with k | k | k | k | k | k | k | k | ⟨k0, k4, k5, k1, k2, k3, k6, k7⟩
  case inr.inr.inr.inr.inr.inr.inr.inr => simp [partsE, validE, k0, k1, k2, k3, k4, k5, k6, k7]
  all_goals
    have a1 : seq (⟨#[]⟩ : ByteArray) e.Name = noS e.Name := seq_symm _ _
    have a2 : eqA z32 e.Sum = noD e.Sum := eqA_symm _ _
    have t0 : timeOk 0 = true := rfl
    have l0 : lenOk 0 0 = true := rfl
    have hT' : (0 : Int) = e.Time ↔ e.Time = 0 := eq_comm
    have hL' : (0 : Int) = e.Len ↔ e.Len = 0 := eq_comm
    have hI' : (0 : Int) = e.ID ↔ e.ID = 0 := eq_comm
    simp [partsE, validE, ofE, leastE, k, eq_ApiEvent, namedL, a1, a2, hT', hL', hI', seq_refl, eqA_refl]
    have bT : ((0 : Int) == e.Time) = (e.Time == 0) := BEq.comm
    have bL : ((0 : Int) == e.Len) = (e.Len == 0) := BEq.comm
    have bI : ((0 : Int) == e.ID) = (e.ID == 0) := BEq.comm
    have cT : (e.Time == 0) = true → timeOk e.Time = true := fun h => by rw [beq_iff_eq.1 h]; rfl
    have cL : (e.Len == 0) = true → lenOk 0 e.Len = true := fun h => by rw [beq_iff_eq.1 h]; rfl
    (try simp only [bT, bL, bI])
    cases hT : (e.Time == 0) <;> cases hL : (e.Len == 0)
    all_goals
      (try rw [cT hT]) <;> (try rw [cL hL])
    all_goals (try simp only [Bool.false_and, Bool.and_false, Bool.true_and, Bool.and_true])
    all_goals (try ac_rfl)
end Go.Cen

/- SHA: shifts that turn, words of a block: the code's and the reference's come to the same. -/
set_option linter.unusedVariables false
set_option linter.unusedSimpArgs false
namespace Go.Cen
def u32 (x : Int) : Prop := 0 ≤ x ∧ x < 4294967296
end Go.Cen

/- SHA: the words of a block. -/
set_option linter.unusedVariables false
set_option linter.unusedSimpArgs false
namespace Go.Cen
def u8 (x : Int) : Prop := 0 ≤ x ∧ x < 256
end Go.Cen

/- SHA: a digest's digits; links. -/
set_option linter.unusedVariables false
set_option linter.unusedSimpArgs false
set_option maxRecDepth 100000
namespace Go.Cen
theorem drop_gt (d : List Int) {i : Int} (h0 : 0 ≤ i) (h : i < d.length) : d.drop i.toNat = gt d i :: d.drop (i + 1).toNat := by
  obtain ⟨hl, e⟩ := gt_lt d h0 h
  rw [e, List.drop_eq_getElem_cons hl, show (i + 1).toNat = i.toNat + 1 by omega]
theorem bytes_step {d : List Int} (hd : d.length = 32) : ∀ (n : Nat) (i : Int) (k : Nat) (acc : List Int), i = 32 - n → n ≤ 32 → n < k → acc.length ≤ 32 - n → ref02_Bytes.l0 d k acc i = some (acc ++ d.drop i.toNat) := by
  intro n
  induction n with
  | zero =>
    intro i k acc hi _ hk _
    obtain ⟨k, rfl⟩ : ∃ m, k = m + 1 := ⟨k - 1, by omega⟩
    have : decide (i < 32) = false := decide_eq_false (by omega)
    have e : d.drop i.toNat = [] := List.drop_of_length_le (by omega)
    simp [ref02_Bytes.l0, this, e]
  | succ n ih =>
    intro i k acc hi hn hk hl
    obtain ⟨k, rfl⟩ : ∃ m, k = m + 1 := ⟨k - 1, by omega⟩
    have hlt : decide (i < 32) = true := decide_eq_true (by omega)
    have e1 : wi64 (i + 1) = i + 1 := wi64_id (by omega)
    have gi : 0 ≤ i ∧ i < 32 := ⟨by omega, by omega⟩
    have gl : acc.length + ([gt d i] : List Int).length ≤ LIM := by simp [LIM]; omega
    rw [drop_gt d gi.1 (by omega)]
    simp only [ref02_Bytes.l0, hlt, if_true, gi, and_self, e1, gl]
    rw [ih (i + 1) k _ (by omega) (by omega) (by omega) (by simp; omega)]
    simp
theorem ref_bytes {d : List Int} (hd : d.length = 32) : ref02_Bytes d = some (strOfNums d) := by
  unfold ref02_Bytes
  rw [bytes_step hd 32 0 FU [] (by omega) (by omega) (by simp [FU]) (by simp)]
  simp
end Go.Cen

/- EVENT: bytes; the reference. -/
set_option linter.unusedVariables false
set_option linter.unusedSimpArgs false
namespace Go.Cen
def putE (e : ApiEvent) : List Int := numL (clampN e.Kind) ++ (partsE e).flatMap bytD
def putR (e : ApiEvent) : ByteArray × Bool := if validE e then (strOfNums (putE e), true) else (⟨#[]⟩, false)
theorem ref03_Valid_eq (s : ByteArray) (h : s.size ≤ 100000) : ref03_Valid s = some (nmOk s) := by
  have := ref03_Valid_str (l := byts s) (byts_isB s) (by rw [byts_len]; exact h)
  rwa [strOfNums_byts] at this
def tells5 (k : Int) : List Bool := if k = 0 ∨ k = 4 ∨ k = 5 then [true, true, false, false, false] else if k = 1 then [true, false, false, true, false] else if k = 2 then [true, false, true, true, true]
  else if k = 3 then [true, false, true, false, false] else if k = 6 then [true, false, false, false, false] else if k = 7 then [false, false, true, false, false] else [false, false, false, false, false]
theorem tells_eq (k : Int) : ref05_tells k = some (tells5 k) := by
  unfold ref05_tells tells5
  rcases kinds k with k | k | k | k | k | k | k | k | ⟨k0, k4, k5, k1, k2, k3, k6, k7⟩
  all_goals first
    | (subst k; rfl)
    | simp [k0, k1, k2, k3, k4, k5, k6, k7]
theorem gtB (a b c d e : Bool) : gt [a, b, c, d, e] 0 = a ∧ gt [a, b, c, d, e] 1 = b ∧ gt [a, b, c, d, e] 2 = c ∧ gt [a, b, c, d, e] 3 = d ∧ gt [a, b, c, d, e] 4 = e := ⟨rfl, rfl, rfl, rfl, rfl⟩
set_option maxHeartbeats 2000000 in
theorem ref05_Valid_eq {e : ApiEvent} (h : okE e) : ref05_Valid e = some (validE e) := by
  unfold ref05_Valid
  rw [tells_eq, ref03_Valid_eq _ h.1]
  rcases kinds e.Kind with k | k | k | k | k | k | k | k | ⟨k0, k4, k5, k1, k2, k3, k6, k7⟩
  case inr.inr.inr.inr.inr.inr.inr.inr =>
    have : (if decide (e.Kind < 0) = true then some true else some (decide (e.Kind > 7))) = some true := by
      by_cases q : e.Kind < 0
      · simp [q]
      · have : e.Kind > 7 := by omega
        simp [this]
    rw [this]
    simp [validE, k0, k1, k2, k3, k4, k5, k6, k7]
  all_goals
    have hz : eqA e.Sum ([0, 0, 0, 0, 0, 0, 0, 0, 0, 0, 0, 0, 0, 0, 0, 0, 0, 0, 0, 0, 0, 0, 0, 0, 0, 0, 0, 0, 0, 0, 0, 0] : List Int) = noD e.Sum := rfl
    simp [k, tells5, validE, (gtB _ _ _ _ _).1, (gtB _ _ _ _ _).2.1, (gtB _ _ _ _ _).2.2.1, (gtB _ _ _ _ _).2.2.2.1, (gtB _ _ _ _ _).2.2.2.2, hz]
    have r1 : ∀ a b x : Int, (if a ≤ x then if x ≤ b then some true else some false else some false) = some (decide (a ≤ x) && decide (x ≤ b)) := fun a b x => by
      by_cases q : a ≤ x <;> by_cases q' : x ≤ b <;> simp [q, q']
    have r2 : ∀ b : Bool, (if b = true then some true else some false) = some b := fun b => by cases b <;> rfl
    have e1 : seq e.Name (⟨#[]⟩ : ByteArray) = noS e.Name := rfl
    simp only [r1, r2, Option.bind_some, e1]
    have e2 : (decide (1 ≤ e.ID) && decide (e.ID ≤ 1099511627776)) = idOk e.ID := rfl
    have e3 : (decide (0 ≤ e.Time) && decide (e.Time ≤ 1099511627776)) = timeOk e.Time := rfl
    have e4 : (decide (0 ≤ e.Len) && decide (e.Len ≤ 600)) = lenOk 0 e.Len := rfl
    have e5 : (decide (1 ≤ e.Len) && decide (e.Len ≤ 600)) = lenOk 1 e.Len := rfl
    (try simp only [e2, e3, e4, e5])
    clear e2 e3 e4 e5 r1 r2 e1
    generalize lenOk 1 e.Len = b1
    generalize lenOk 0 e.Len = b0
    generalize timeOk e.Time = bt
    generalize idOk e.ID = bi
    generalize noS e.Name = bs
    generalize nmOk e.Name = bn
    by_cases hT : e.Time = 0 <;> by_cases hL : e.Len = 0 <;> by_cases hI : e.ID = 0
    all_goals
      cases bs <;> cases bi <;> simp [hT, hL, hI]
    all_goals
      cases bn <;> cases bt <;> cases b0 <;> cases b1 <;> (try simp)
theorem ref04_Text_eq (s : ByteArray) (h : s.size ≤ 100000) : ref04_Text s = some (strOfNums (numL (clampN (s.size : Int)) ++ byts s)) := by
  have hL := LIM_val
  have := clampN_len (s.size : Int)
  unfold ref04_Text
  rw [ref04_Num_eq]
  simp only [Option.bind_some, strOfNums_size]
  rw [if_pos (by omega)]
  congr 1
  rw [← strOfNums_append, strOfNums_byts]
theorem ref04_Sum_eq {d : List Int} (h : d.length = 32) : ref04_Sum d = some (strOfNums d) := by
  unfold ref04_Sum
  rw [ref_bytes h]; rfl
theorem ref05_Put_eq {e : ApiEvent} (h : okE e) : ref05_Put e = some (putR e) := by
  have hL := LIM_val
  have c0 := clampN_len e.Kind
  have c1 := clampN_len e.ID
  have c2 := clampN_len e.Time
  have c3 := clampN_len e.Len
  have c4 := clampN_len (e.Name.size : Int)
  have hn := h.1
  have h32 := h.2.1
  have hb := byts_len e.Name
  unfold ref05_Put putR
  rw [ref05_Valid_eq h]
  cases hv : validE e with
  | false => rfl
  | true =>
    simp only [Option.bind_some, Bool.not_true, Bool.false_eq_true, if_false, if_true, tells_eq, ref04_Num_eq, ref04_Text_eq _ h.1, ref04_Sum_eq h.2.1, putE]
    rcases kinds e.Kind with k | k | k | k | k | k | k | k | ⟨k0, k4, k5, k1, k2, k3, k6, k7⟩
    case inr.inr.inr.inr.inr.inr.inr.inr => simp [validE, k0, k1, k2, k3, k4, k5, k6, k7] at hv
    all_goals
      have hq : ∀ (xs ys : List Int), xs.length ≤ 1000 → ys.length ≤ 100100 → (strOfNums xs).size + (strOfNums ys).size ≤ LIM := fun xs ys h1 h2 => by rw [strOfNums_size, strOfNums_size]; omega
      rw [k] at c0
      simp only [k, tells5, partsE, (gtB _ _ _ _ _).1, (gtB _ _ _ _ _).2.1, (gtB _ _ _ _ _).2.2.1, (gtB _ _ _ _ _).2.2.2.1, (gtB _ _ _ _ _).2.2.2.2, if_true, Option.bind_some, Int.reduceEq, or_true, true_or, or_false, false_or, or_self, if_false, Bool.false_eq_true, reduceCtorEq]
      simp only [strOfNums_append, strOfNums_size, List.length_append, hb, h32]
      repeat (first | rw [if_pos (by omega)] | simp only [Option.bind_some, strOfNums_append, strOfNums_size, List.length_append, hb, h32])
      simp [bytD]
end Go.Cen

/- EVENT: bytes tell the event. -/
set_option linter.unusedVariables false
set_option linter.unusedSimpArgs false
namespace Go.Cen
theorem eq_event_iff (a b : ApiEvent) : eq_ApiEvent a b = true ↔ a = b := by
  cases a; cases b
  simp [eq_ApiEvent, seq_iff, eqA_iff]
/-- what an event that may be is -/
theorem valid_form {e : ApiEvent} (h : okE e) (hv : validE e = true) : partsE e ≠ [] ∧ ofE e = e ∧ namedL (partsE e) true = true ∧ (e.Kind = 7 ∨ idOk e.ID = true) ∧ timeOk e.Time = true ∧ lenOk (leastE e) e.Len = true := by
  have h1 := event_Valid_raw h
  rw [event_Valid_eq h, hv] at h1
  have h2 := (someS h1).symm
  by_cases hk : partsE e = []
  · rw [if_pos hk] at h2; cases h2
  · rw [if_neg hk] at h2
    simp only [Bool.and_eq_true, Bool.or_eq_true, beq_iff_eq] at h2
    obtain ⟨a, b, c, d, f⟩ := h2
    exact ⟨hk, (eq_event_iff _ _).1 a, b, c, d, f⟩
theorem valid_kind {e : ApiEvent} (hv : validE e = true) : 0 ≤ e.Kind ∧ e.Kind ≤ 7 := by
  rcases kinds e.Kind with k | k | k | k | k | k | k | k | ⟨k0, k4, k5, k1, k2, k3, k6, k7⟩
  case inr.inr.inr.inr.inr.inr.inr.inr => simp [validE, k0, k1, k2, k3, k4, k5, k6, k7] at hv
  all_goals omega
theorem valid_nums {e : ApiEvent} (h : okE e) (hv : validE e = true) : (0 ≤ e.ID ∧ e.ID ≤ 1099511627776) ∧ (0 ≤ e.Time ∧ e.Time ≤ 1099511627776) ∧ (0 ≤ e.Len ∧ e.Len ≤ 600) := by
  obtain ⟨h1, h2, h3, h4, h5, h6⟩ := valid_form h hv
  simp only [timeOk, lenOk, Bool.and_eq_true, decide_eq_true_eq] at h5 h6
  have hl : leastE e = 0 ∨ leastE e = 1 := by unfold leastE; split <;> simp
  refine ⟨?_, h5, by omega⟩
  rcases h4 with h4 | h4
  · have : (ofE e).ID = 0 := by simp [ofE, h4]
    rw [h2] at this; omega
  · simp only [idOk, Bool.and_eq_true, decide_eq_true_eq] at h4; omega
end Go.Cen

/- ROOT: what is valid, and its bytes. -/
set_option linter.unusedVariables false
set_option linter.unusedSimpArgs false
namespace Go.Cen
/-- one row, as four numbers -/
structure Q where
  l : Int
  o : Int
  b : Int
  t : Int
  deriving DecidableEq
end Go.Cen

/- ROOT: its bytes, and the parts. -/
set_option linter.unusedVariables false
set_option linter.unusedSimpArgs false
namespace Go.Cen
/-- a number's bytes, clamped -/
def nm (a : Int) : List Int := numL (clampN a)
end Go.Cen

/- ROOT: numbers read out of bytes. -/
set_option linter.unusedVariables false
set_option linter.unusedSimpArgs false
namespace Go.Cen
theorem bOr_i64 (x y : Nat) (hx : x < 2 ^ 62) (hy : y < 2 ^ 62) : bOr .i64 (x : Int) (y : Int) = ((x ||| y : Nat) : Int) := by
  have h : x ||| y < 2 ^ 62 := Nat.or_lt_two_pow hx hy
  have hb : (2 : Nat) ^ IntKind.bits .i64 = 18446744073709551616 := rfl
  have e : (BitVec.ofInt (IntKind.bits .i64) (x : Int) ||| BitVec.ofInt (IntKind.bits .i64) (y : Int)).toNat = x ||| y := by
    simp only [BitVec.ofInt_natCast, BitVec.toNat_or, BitVec.toNat_ofNat]
    rw [hb, Nat.mod_eq_of_lt (by omega), Nat.mod_eq_of_lt (by omega)]
  rw [bOr, e]
  exact wi64_id (by omega)
theorem bShl_i64 (x n : Nat) (hn : n ≤ 64) (h : x * 2 ^ n < 2 ^ 62) : bShl .i64 (x : Int) (n : Int) = ((x * 2 ^ n : Nat) : Int) := by
  have hm : min n 64 = n := by omega
  have : bShl .i64 (x : Int) (n : Int) = wi64 ((x : Int) * 2 ^ (min n 64)) := rfl
  rw [this, hm]
  have e : (x : Int) * 2 ^ n = ((x * 2 ^ n : Nat) : Int) := by push_cast; rfl
  rw [e]
  exact wi64_id (by omega)
theorem bAnd127 (n : Nat) (h : n < 256) : bAnd .u8 (n : Int) 127 = ((n % 128 : Nat) : Int) := by
  have e3 := bAnd_nat (k := .u8) rfl n 127 (by show _ < 256; omega) (by show _ < 256; omega)
  refine e3.trans ?_
  have := Nat.and_two_pow_sub_one_eq_mod n 7
  rw [show (127 : Nat) = 2 ^ 7 - 1 from rfl, this]
/-- the number that bytes begin with, canonical or not -/
def rawN : Nat → List Int → Option (Nat × List Int)
  | 0, _ => none
  | _ + 1, [] => none
  | f + 1, b :: r => if b < 128 then some (b.toNat, r) else match rawN f r with
    | some (n, r') => some (b.toNat - 128 + 128 * n, r')
    | none => none
theorem decN_raw : ∀ (f : Nat) (l : List Int) (n : Nat) (r : List Int), decN f l = some (n, r) → rawN f l = some (n, r)
  | 0, l, n, r, h => by simp [decN] at h
  | f + 1, [], n, r, h => by simp [decN] at h
  | f + 1, b :: l, n, r, h => by
    simp only [decN] at h
    simp only [rawN]
    by_cases h1 : b < 128
    · rw [if_pos h1] at h ⊢; exact h
    · rw [if_neg h1] at h ⊢
      cases h2 : decN f l with
      | none => rw [h2] at h; cases h
      | some p =>
        rw [h2] at h
        rw [decN_raw f l p.1 p.2 h2]
        simp only at h ⊢
        split at h
        · cases h
        · exact h
/-- what a reading gives -/
def getR (l : List Int) : Int × List Int × Bool := match getN l with
  | some (n, r) => ((n : Int), r, true)
  | none => (0, [], false)
theorem getN_none {l : List Int} {n : Nat} {r : List Int} (hl : isB l) (hr : rawN 8 l = some (n, r)) (h : ¬ (n ≤ 1125899906842624 ∧ numL n ++ r = l)) : getN l = none := by
  cases e : getN l with
  | none => rfl
  | some p =>
    obtain ⟨e1, e2⟩ := getN_inv hl (n := p.1) (r := p.2) e
    have e3 : decN 8 l = some (p.1, p.2) := by
      unfold getN at e
      cases h2 : decN 8 l with
      | none => rw [h2] at e; cases e
      | some q =>
        rw [h2] at e
        simp only at e
        split at e
        · cases e; rfl
        · cases e
    have e4 := decN_raw _ _ _ _ e3
    rw [hr] at e4
    simp only [Option.some.injEq, Prod.mk.injEq] at e4
    exact absurd ⟨by omega, by rw [e4.1, e4.2]; exact e1.symm⟩ h
theorem getN_some {l : List Int} {n : Nat} {r : List Int} (h : n ≤ 1125899906842624 ∧ numL n ++ r = l) : getN l = some (n, r) := by
  rw [← h.2]; exact getN_numL n r h.1
theorem getN_noraw {l : List Int} (hr : rawN 8 l = none) : getN l = none := by
  unfold getN
  cases h2 : decN 8 l with
  | none => rfl
  | some q => rw [decN_raw 8 l q.1 q.2 h2] at hr; cases hr
/-- the reference's loop -/
theorem refGet_l0 (xs : List Int) (hx : isB xs) : ∀ (f i k a : Nat), i + f = 8 → f < k → i ≤ xs.length → a < 128 ^ i →
    (∀ n r, rawN f (xs.drop i) = some (n, r) → rawN 8 xs = some (a + 128 ^ i * n, r)) → (rawN f (xs.drop i) = none → rawN 8 xs = none) →
    ref04_GetNum.l0 (strOfNums xs) k (a : Int) ((128 ^ i : Nat) : Int) (i : Int) = some (match getN xs with | some (n, r) => .inl ((n : Int), strOfNums r, true) | none => if rawN 8 xs = none then .inr () else .inl (0, (⟨#[]⟩ : ByteArray), false)) := by
  intro f
  induction f with
  | zero =>
    intro i k a hi hk hl ha h1 h2
    obtain ⟨k, rfl⟩ : ∃ m, k = m + 1 := ⟨k - 1, by omega⟩
    have hr := h2 rfl
    rw [getN_noraw hr]
    simp only [hr, if_true]
    have : decide ((i : Int) < 8) = false := by simp; omega
    simp only [ref04_GetNum.l0, this, strOfNums_size]
    split <;> simp
  | succ f ih =>
    intro i k a hi hk hl ha h1 h2
    obtain ⟨k, rfl⟩ : ∃ m, k = m + 1 := ⟨k - 1, by omega⟩
    have h8 : decide ((i : Int) < 8) = true := by simp; omega
    by_cases hlt : i < xs.length
    · have hd : decide ((i : Int) < (xs.length : Int)) = true := by simp; omega
      have hdr : xs.drop i = xs[i] :: xs.drop (i + 1) := List.drop_eq_getElem_cons hlt
      have hg : bt (strOfNums xs) (i : Int) = xs[i] := by rw [bt_str hx, gt_nat xs i hlt]
      have hb := hx xs[i] (List.getElem_mem hlt)
      obtain ⟨b, hbb⟩ : ∃ b : Nat, xs[i] = (b : Int) := ⟨xs[i].toNat, by omega⟩
      have hp : 128 ^ i ≤ 562949953421312 := by
        have : (128 : Nat) ^ i ≤ 128 ^ 7 := Nat.pow_le_pow_right (by decide) (by omega)
        omega
      have hw : wi64 ((i : Int) + 1) = ((i + 1 : Nat) : Int) := by rw [wi64_id (by omega)]; omega
      have hm : wi64 ((wi64 (b : Int)).tmod 128 * ((128 ^ i : Nat) : Int)) = ((b % 128 * 128 ^ i : Nat) : Int) := by
        have e0 : (b : Int).tmod 128 = ((b % 128 : Nat) : Int) := by rw [Int.tmod_eq_emod_of_nonneg (by omega)]; omega
        have : b % 128 * 128 ^ i ≤ 127 * 562949953421312 := Nat.mul_le_mul (by omega) hp
        rw [wi64_id (x := (b : Int)) (by omega), e0, ← Int.natCast_mul, wi64_id (by omega)]
      have hm2 : b % 128 * 128 ^ i ≤ 127 * 562949953421312 := Nat.mul_le_mul (by omega) hp
      have hs : wi64 ((a : Int) + ((b % 128 * 128 ^ i : Nat) : Int)) = ((a + b % 128 * 128 ^ i : Nat) : Int) := by rw [wi64_id (by omega)]; omega
      have hgi : (0 ≤ (i : Int) ∧ (i : Int) < (xs.length : Int)) := ⟨by omega, by omega⟩
      simp only [decide_true, if_true, and_self, Option.bind_some, ref04_GetNum.l0, strOfNums_size, hd, h8, hgi, hg, hbb, hm, hs, hw]
      by_cases hb1 : b < 128
      · have hb2 : decide ((b : Int) < 128) = true := by simp; omega
        have hr : rawN 8 xs = some (a + b % 128 * 128 ^ i, xs.drop (i + 1)) := by
          have := h1 b (xs.drop (i + 1)) (by rw [hdr, hbb]; simp only [rawN]; rw [if_pos (by omega)]; simp)
          rw [this, Nat.mod_eq_of_lt hb1, Nat.mul_comm]
        obtain ⟨n, hn⟩ : ∃ n, n = a + b % 128 * 128 ^ i := ⟨_, rfl⟩
        rw [← hn] at hr
        simp only [hb2, if_true, ← hn]
        have hsx : sx (strOfNums xs) 0 ((i + 1 : Nat) : Int) = strOfNums (xs.take (i + 1)) := by rw [sx_str]; simp
        have hsy : sx (strOfNums xs) ((i + 1 : Nat) : Int) (xs.length : Int) = strOfNums (xs.drop (i + 1)) := by rw [sx_str]; simp
        by_cases hc : n ≤ 1125899906842624
        · have hc1 : decide ((n : Int) > 1125899906842624) = false := by simp; omega
          have hcl : clampN (n : Int) = n := by have := clampN_id (a := (n : Int)) (by omega) (by omega); omega
          have hsq : seq (strOfNums (numL n)) (strOfNums (xs.take (i + 1))) = decide (numL n = xs.take (i + 1)) := seq_str (numL_isB n) (isB_take hx _)
          simp only [hc1, Bool.false_eq_true, if_false]
          rw [if_pos (by omega), if_pos (by omega)]
          simp only [ref04_Num_eq, hcl, Option.bind_some, hsx, hsy, hsq]
          by_cases he : numL n = xs.take (i + 1)
          · rw [getN_some (l := xs) (n := n) (r := xs.drop (i + 1)) ⟨hc, by rw [he, List.take_append_drop]⟩]
            simp [he]
          · rw [getN_none hx hr (fun h => he (by
              have h3 := h.2
              have h4 := congrArg List.length h3
              rw [List.length_append, List.length_drop] at h4
              have h5 : (numL n).length = i + 1 := by omega
              have h6 := congrArg (List.take (i + 1)) h3
              rw [List.take_left' h5] at h6
              exact h6))]
            simp [he, hr]
        · have hc1 : decide ((n : Int) > 1125899906842624) = true := by simp; omega
          simp only [hc1, if_true, Option.bind_some]
          rw [getN_none hx hr (fun h => hc h.1)]
          simp [hr]
      · have hb2 : decide ((b : Int) < 128) = false := by simp; omega
        have hpp : wi64 (((128 ^ i : Nat) : Int) * 128) = ((128 ^ (i + 1) : Nat) : Int) := by
          rw [Nat.pow_succ, wi64_id (by omega)]; push_cast; rfl
        have hpw : 128 ^ (i + 1) = 128 ^ i * 128 := Nat.pow_succ ..
        have hbm : b % 128 = b - 128 := by omega
        have hlt2 : a + b % 128 * 128 ^ i < 128 ^ (i + 1) := by
          have : b % 128 * 128 ^ i ≤ 127 * 128 ^ i := Nat.mul_le_mul_right _ (by omega)
          omega
        simp only [hb2, Bool.false_eq_true, if_false, hpp]
        refine ih (i + 1) k (a + b % 128 * 128 ^ i) (by omega) (by omega) (by omega) hlt2 ?_ ?_
        · intro n r h
          have := h1 (b - 128 + 128 * n) r (by rw [hdr, hbb]; simp only [rawN]; rw [if_neg (by omega), h]; simp)
          rw [this, hbm, hpw]
          have : a + 128 ^ i * (b - 128 + 128 * n) = a + (b - 128) * 128 ^ i + 128 ^ i * 128 * n := by rw [Nat.mul_add, Nat.mul_comm (128 ^ i) (b - 128), Nat.mul_assoc]; omega
          rw [this]
        · intro h
          exact h2 (by rw [hdr, hbb]; simp only [rawN]; rw [if_neg (by omega), h])
    · have hd : decide ((i : Int) < (xs.length : Int)) = false := by simp; omega
      have hz : xs.drop i = [] := List.drop_eq_nil_iff.2 (by omega)
      have hr := h2 (by rw [hz]; rfl)
      rw [getN_noraw hr]
      simp only [ref04_GetNum.l0, strOfNums_size, hd, hr, if_true]
      rfl
theorem ref04_GetNum_eq (xs : List Int) (hx : isB xs) : ref04_GetNum (strOfNums xs) = some ((getR xs).1, strOfNums (getR xs).2.1, (getR xs).2.2) := by
  unfold ref04_GetNum getR
  have := refGet_l0 xs hx 8 0 FU 0 rfl (by have : FU = 4611686018427387904 := rfl
                                           omega) (by omega) (by decide) (fun n r h => by simpa using h) (fun h => by simpa using h)
  rw [show ref04_GetNum.l0 (strOfNums xs) FU 0 1 0 = _ from this]
  cases getN xs with
  | some p => rfl
  | none =>
    simp only
    split <;> rfl
end Go.Cen

/- ROOT: numbers read out of bytes, the program's way. -/
set_option linter.unusedVariables false
set_option linter.unusedSimpArgs false
namespace Go.Cen
/-- a result that fits what is to be read -/
def fitsG (xs : List Int) (ρ : Option (WireGot_int ⊕ Unit)) : Prop := match getN xs with
  | some (n, r) => ρ = some (.inl ⟨(n : Int), strOfNums r, true⟩)
  | none => ρ = some (.inr ()) ∨ ∃ g : WireGot_int, ρ = some (.inl g) ∧ g.ok = false
theorem wire_l0 (xs : List Int) (hx : isB xs) : ∀ (f i k a : Nat), i + f = 8 → f < k → i ≤ xs.length → a < 128 ^ i →
    (∀ n r, rawN f (xs.drop i) = some (n, r) → rawN 8 xs = some (a + 128 ^ i * n, r)) → (rawN f (xs.drop i) = none → rawN 8 xs = none) →
    (∀ n r, decN f (xs.drop i) = some (n, r) → (i = 0 ∨ n ≠ 0) → decN 8 xs = some (a + 128 ^ i * n, r)) → (∀ n r, rawN f (xs.drop i) = some (n, r) → (decN f (xs.drop i) = none ∨ (n = 0 ∧ 0 < i)) → decN 8 xs = none) →
    fitsG xs (wire_num.l0 (strOfNums xs) k (a : Int) (i : Int)) := by
  intro f
  induction f with
  | zero =>
    intro i k a hi hk hl ha h1 h2 h3 h4
    obtain ⟨k, rfl⟩ : ∃ m, k = m + 1 := ⟨k - 1, by omega⟩
    have hr := h2 rfl
    unfold fitsG
    rw [getN_noraw hr]
    have : decide ((i : Int) < (if 8 < (xs.length : Int) then 8 else (xs.length : Int))) = false := by simp; split <;> omega
    simp only [wire_num.l0, this, strOfNums_size]
    exact .inl rfl
  | succ f ih =>
    intro i k a hi hk hl ha h1 h2 h3 h4
    obtain ⟨k, rfl⟩ : ∃ m, k = m + 1 := ⟨k - 1, by omega⟩
    by_cases hlt : i < xs.length
    · have hd : decide ((i : Int) < (if 8 < (xs.length : Int) then 8 else (xs.length : Int))) = true := by simp; split <;> omega
      have hdr : xs.drop i = xs[i] :: xs.drop (i + 1) := List.drop_eq_getElem_cons hlt
      have hg : bt (strOfNums xs) (i : Int) = xs[i] := by rw [bt_str hx, gt_nat xs i hlt]
      have hb := hx xs[i] (List.getElem_mem hlt)
      obtain ⟨b, hbb⟩ : ∃ b : Nat, xs[i] = (b : Int) := ⟨xs[i].toNat, by omega⟩
      have hp : 128 ^ i ≤ 562949953421312 := by
        have : (128 : Nat) ^ i ≤ 128 ^ 7 := Nat.pow_le_pow_right (by decide) (by omega)
        omega
      have hw : wi64 ((i : Int) + 1) = ((i + 1 : Nat) : Int) := by rw [wi64_id (by omega)]; omega
      have hw7 : wi64 (7 * (i : Int)) = ((7 * i : Nat) : Int) := by rw [wi64_id (by omega)]; omega
      have hm2 : b % 128 * 128 ^ i ≤ 127 * 562949953421312 := Nat.mul_le_mul (by omega) hp
      have hpe : (2 : Nat) ^ (7 * i) = 128 ^ i := by rw [Nat.pow_mul]
      have hm : bShl .i64 (wi64 (bAnd .u8 (b : Int) 127)) ((7 * i : Nat) : Int) = ((b % 128 * 128 ^ i : Nat) : Int) := by
        rw [bAnd127 b (by omega), wi64_id (by omega), bShl_i64 _ _ (by omega) (by rw [hpe]; omega), hpe]
      have hs : bOr .i64 (a : Int) ((b % 128 * 128 ^ i : Nat) : Int) = ((a + b % 128 * 128 ^ i : Nat) : Int) := by
        rw [bOr_i64 _ _ (by omega) (by omega)]
        rw [← hpe, Nat.or_comm, or_add (by rw [hpe]; exact ha)]
        rw [hpe]; omega
      have hgi : (0 ≤ (i : Int) ∧ (i : Int) < (xs.length : Int)) := ⟨by omega, by omega⟩
      have h70 : 0 ≤ ((7 * i : Nat) : Int) := by omega
      simp only [decide_true, if_true, and_self, Option.bind_some, wire_num.l0, strOfNums_size, hd, hgi, hg, hbb, hw7, hm, hs, hw, h70]
      by_cases hb1 : b < 128
      · have hb2 : decide ((b : Int) < 128) = true := by simp; omega
        have hraw : rawN (f + 1) (xs.drop i) = some (b, xs.drop (i + 1)) := by rw [hdr, hbb]; simp only [rawN]; rw [if_pos (by omega)]; simp
        have hdec : decN (f + 1) (xs.drop i) = some (b, xs.drop (i + 1)) := by rw [hdr, hbb]; simp only [decN]; rw [if_pos (by omega)]; simp
        obtain ⟨n, hn⟩ : ∃ n, n = a + b % 128 * 128 ^ i := ⟨_, rfl⟩
        have hn2 : n = a + 128 ^ i * b := by rw [hn, Nat.mod_eq_of_lt hb1, Nat.mul_comm]
        have hr := h1 _ _ hraw
        rw [← hn2] at hr
        have hsy : sx (strOfNums xs) ((i + 1 : Nat) : Int) (xs.length : Int) = strOfNums (xs.drop (i + 1)) := by rw [sx_str]; simp
        have hgs : (0 : Int) ≤ ((i + 1 : Nat) : Int) ∧ ((i + 1 : Nat) : Int) ≤ (xs.length : Int) := ⟨by omega, by omega⟩
        simp only [hb2, if_true, ← hn, hsy, hgs, and_self, Int.le_refl]
        unfold fitsG
        by_cases hc : n ≤ 1125899906842624
        · have hc1 : decide ((n : Int) ≤ 1125899906842624) = true := by simp; omega
          simp only [hc1, if_true]
          by_cases hi0 : i = 0
          · have hd8 := h3 _ _ hdec (.inl hi0)
            rw [← hn2] at hd8
            have : getN xs = some (n, xs.drop (i + 1)) := by unfold getN; rw [hd8]; simp only; rw [if_pos hc]
            rw [this]
            subst hi0
            rfl
          · have hz : ((i : Int) == 0) = false := by simp; omega
            simp only [hz, Bool.false_eq_true, if_false]
            by_cases hb0 : b = 0
            · have hd8 := h4 _ _ hraw (.inr ⟨hb0, by omega⟩)
              have : getN xs = none := by unfold getN; rw [hd8]
              rw [this]
              exact .inr ⟨_, rfl, by simp [hb0]⟩
            · have hd8 := h3 _ _ hdec (.inr hb0)
              rw [← hn2] at hd8
              have : getN xs = some (n, xs.drop (i + 1)) := by unfold getN; rw [hd8]; simp only; rw [if_pos hc]
              rw [this]
              have : decide ((b : Int) > 0) = true := by simp; omega
              simp only [this]
              rfl
        · have hc1 : decide ((n : Int) ≤ 1125899906842624) = false := by simp; omega
          have : getN xs = none := getN_none hx hr (fun h => hc h.1)
          rw [this]
          simp only [hc1]
          exact .inr ⟨_, rfl, rfl⟩
      · have hb2 : decide ((b : Int) < 128) = false := by simp; omega
        have hpw : 128 ^ (i + 1) = 128 ^ i * 128 := Nat.pow_succ ..
        have hbm : b % 128 = b - 128 := by omega
        have hlt2 : a + b % 128 * 128 ^ i < 128 ^ (i + 1) := by
          have : b % 128 * 128 ^ i ≤ 127 * 128 ^ i := Nat.mul_le_mul_right _ (by omega)
          omega
        have hval : ∀ n, a + 128 ^ i * (b - 128 + 128 * n) = a + b % 128 * 128 ^ i + 128 ^ (i + 1) * n := by
          intro n
          rw [hbm, hpw, Nat.mul_add, Nat.mul_comm (128 ^ i) (b - 128), Nat.mul_assoc]; omega
        have hraws : ∀ n r, rawN f (xs.drop (i + 1)) = some (n, r) → rawN (f + 1) (xs.drop i) = some (b - 128 + 128 * n, r) := by
          intro n r h
          rw [hdr, hbb]; simp only [rawN]; rw [if_neg (by omega), h]; simp
        simp only [hb2, Bool.false_eq_true, if_false]
        refine ih (i + 1) k (a + b % 128 * 128 ^ i) (by omega) (by omega) (by omega) hlt2 ?_ ?_ ?_ ?_
        · intro n r h
          rw [h1 _ _ (hraws n r h), hval]
        · intro h
          exact h2 (by rw [hdr, hbb]; simp only [rawN]; rw [if_neg (by omega), h])
        · intro n r h hn
          have hn0 : n ≠ 0 := by rcases hn with h | h <;> omega
          rw [h3 (b - 128 + 128 * n) r (by rw [hdr, hbb]; simp only [decN]; rw [if_neg (by omega), h]; simp [hn0]) (.inr (by omega)), hval]
        · intro n r h hn
          refine h4 _ _ (hraws n r h) (.inl ?_)
          rw [hdr, hbb]; simp only [decN]; rw [if_neg (by omega)]
          cases hdc : decN f (xs.drop (i + 1)) with
          | none => rfl
          | some q =>
            rcases hn with h5 | h5
            · rw [hdc] at h5; cases h5
            · have := decN_raw _ _ q.1 q.2 hdc
              rw [h] at this
              simp only [Option.some.injEq, Prod.mk.injEq] at this
              have hq : q.1 = 0 := by omega
              simp [hq]
    · have hd : decide ((i : Int) < (if 8 < (xs.length : Int) then 8 else (xs.length : Int))) = false := by simp; split <;> omega
      have hz : xs.drop i = [] := List.drop_eq_nil_iff.2 (by omega)
      have hr := h2 (by rw [hz]; rfl)
      unfold fitsG
      rw [getN_noraw hr]
      simp only [wire_num.l0, strOfNums_size, hd]
      exact .inl rfl
theorem wire_GetNum_eq (xs : List Int) (hx : isB xs) : wire_GetNum (strOfNums xs) = some ((getR xs).1, strOfNums (getR xs).2.1, (getR xs).2.2) := by
  unfold wire_GetNum wire_num getR
  have := wire_l0 xs hx 8 0 FU 0 rfl (by have : FU = 4611686018427387904 := rfl
                                         omega) (by omega) (by decide) (fun n r h => by simpa using h) (fun h => by simpa using h) (fun n r h _ => by simpa using h) (fun n r h hh => by
    rcases hh with h5 | h5
    · simpa using h5
    · omega)
  unfold fitsG at this
  cases h : getN xs with
  | some p =>
    rw [h] at this
    simp only at this
    rw [show wire_num.l0 (strOfNums xs) FU 0 0 = _ from this]
    rfl
  | none =>
    rw [h] at this
    simp only at this
    rcases this with h2 | ⟨g, h2, h3⟩
    · rw [show wire_num.l0 (strOfNums xs) FU 0 0 = _ from h2]
      rfl
    · rw [show wire_num.l0 (strOfNums xs) FU 0 0 = _ from h2]
      simp only [Option.bind_some, wire_got_int_parts, h3]
      rfl
end Go.Cen

/- EVENT: what was put is got again. -/
set_option linter.unusedVariables false
set_option linter.unusedSimpArgs false
set_option maxRecDepth 100000
namespace Go.Cen
def tmplD : Dyn88 → Dyn88
  | .nil => .nil
  | .i111 _ => .i111 0
  | .i108 _ => .i108 ⟨#[]⟩
  | .i112 _ => .i112 z32
def goodD (d : Dyn88) : Prop := match d with | .nil => False | .i111 x => 0 ≤ x ∧ x ≤ 1125899906842624 | .i108 s => s.size ≤ 100 | .i112 d => d.length = 32 ∧ isB d
theorem getR_num {a : Int} (h0 : 0 ≤ a) (h : a ≤ 1125899906842624) (r : List Int) : getR (numL (clampN a) ++ r) = (a, r, true) := by
  unfold getR
  rw [getN_numL _ _ (clampN_le a)]
  simp [clampN_id h0 h]
theorem gnum {a : Int} (h0 : 0 ≤ a) (h : a ≤ 1125899906842624) {r : List Int} (hr : isB r) : wire_GetNum (strOfNums (numL (clampN a) ++ r)) = some (a, strOfNums r, true) := by
  rw [wire_GetNum_eq _ (isB_app (numL_isB _) hr), getR_num h0 h]
theorem gtext {s : ByteArray} (h : s.size ≤ 100) {r : List Int} (hr : isB r) : wire_GetText (strOfNums ((numL (clampN (s.size : Int)) ++ byts s) ++ r)) 100 = some (s, strOfNums r, true) := by
  unfold wire_GetText wire_text
  rw [List.append_assoc, gnum (by omega) (by omega) (isB_app (byts_isB s) hr)]
  simp only [Option.bind_some, Bool.not_true, Bool.false_eq_true, if_false, strOfNums_size, List.length_append, byts_len]
  have c : ¬ ((s.size : Int) > (if (100 : Int) < ((s.size + r.length : Nat) : Int) then 100 else ((s.size + r.length : Nat) : Int))) := by split <;> omega
  have g1 : (0 : Int) ≤ 0 ∧ (0 : Int) ≤ (s.size : Int) ∧ (s.size : Int) ≤ ((s.size + r.length : Nat) : Int) := by omega
  have g2 : (0 : Int) ≤ (s.size : Int) ∧ (s.size : Int) ≤ ((s.size + r.length : Nat) : Int) ∧ ((s.size + r.length : Nat) : Int) ≤ ((s.size + r.length : Nat) : Int) := by omega
  have e1 : sx (strOfNums (byts s ++ r)) 0 (s.size : Int) = s := by
    rw [sx_str]
    have : (s.size : Int).toNat = (byts s).length := by rw [byts_len]; omega
    rw [this, List.take_left]; simp [strOfNums_byts]
  have e2 : sx (strOfNums (byts s ++ r)) (s.size : Int) ((s.size + r.length : Nat) : Int) = strOfNums r := by
    rw [sx_str]
    have h1 : ((s.size + r.length : Nat) : Int).toNat = (byts s ++ r).length := by rw [List.length_append, byts_len]; omega
    have h2 : (s.size : Int).toNat = (byts s).length := by rw [byts_len]; omega
    rw [h1, List.take_length, h2, List.drop_left]
  simp only [c, decide_false, Bool.false_eq_true, if_false, Option.bind_some, g1, g2, and_self, if_true, e1, e2]
  rfl
theorem gsum {d : List Int} (h : d.length = 32) (hd : isB d) {r : List Int} (hr : isB r) : wire_GetSum (strOfNums (d ++ r)) = some (d, strOfNums r, true) := by
  unfold wire_GetSum
  have hsz : ((strOfNums (d ++ r)).size : Int) = ((32 + r.length : Nat) : Int) := by rw [strOfNums_size, List.length_append, h]
  have c : ¬ (((32 + r.length : Nat) : Int) < 32) := by omega
  have g1 : (0 : Int) ≤ 0 ∧ (0 : Int) ≤ 32 ∧ (32 : Int) ≤ ((32 + r.length : Nat) : Int) := by omega
  have g2 : (0 : Int) ≤ 32 ∧ (32 : Int) ≤ ((32 + r.length : Nat) : Int) ∧ ((32 + r.length : Nat) : Int) ≤ ((32 + r.length : Nat) : Int) := by omega
  have e1 : sx (strOfNums (d ++ r)) 0 32 = strOfNums d := by
    rw [sx_str]
    have : (32 : Int).toNat = d.length := by rw [h]; rfl
    rw [this, List.take_left]; simp
  have e2 : sx (strOfNums (d ++ r)) 32 ((32 + r.length : Nat) : Int) = strOfNums r := by
    rw [sx_str]
    have h1 : ((32 + r.length : Nat) : Int).toNat = (d ++ r).length := by rw [List.length_append, h]; omega
    have h2 : (32 : Int).toNat = d.length := by rw [h]; rfl
    rw [h1, List.take_length, h2, List.drop_left]
  have hlim : (strOfNums d).size ≤ LIM := by rw [strOfNums_size, h]; decide
  rw [hsz]
  simp only [c, decide_false, Bool.false_eq_true, if_false, g1, g2, and_self, if_true, e1, e2, hlim, byts_strOfNums hd, h]
  rfl
theorem get_eq {d : Dyn88} (h : goodD d) {r : List Int} (hr : isB r) : event_get (tmplD d) (strOfNums (bytD d ++ r)) = some (d, strOfNums r, true) := by
  cases d with
  | nil => exact h.elim
  | i111 x => simp only [event_get, tmplD, bytD, Option.bind_some, gnum h.1 h.2 hr]
  | i108 s =>
    have h' : s.size ≤ 100 := h
    simp only [event_get, tmplD, bytD, Option.bind_some, gtext h' hr]
  | i112 d =>
    have hz : z32.length = 32 := by simp [z32]
    simp only [event_get, tmplD, bytD, hz, if_true, Option.bind_some, gsum h.1 h.2 hr]
theorem set_mid {α : Type} (a : List α) (x y : α) (b : List α) : st (a ++ x :: b) (a.length : Int) y = (a ++ [y]) ++ b := by
  unfold st
  have : (a.length : Int).toNat = a.length := by omega
  rw [this, List.set_append_right _ _ (Nat.le_refl _)]
  simp
theorem gt_mid {α : Type} [Inhabited α] (a : List α) (x : α) (b : List α) : gt (a ++ x :: b) (a.length : Int) = x := by
  rw [gt_nat _ a.length (by simp)]
  simp
theorem Get_l0 (T : List Dyn88) (r : List Int) (hr : isB r) : ∀ (todo done : List Dyn88) (k : Nat), (∀ d ∈ todo, goodD d) → done.length + todo.length = T.length → T.length ≤ 1000 → todo.length < k →
    event_Get.l0 T k (strOfNums (todo.flatMap bytD ++ r)) (done ++ todo.map tmplD) (done.length : Int) = some (.inr (strOfNums r, done ++ todo))
  | [], done, k, _, h2, h3, h4 => by
    obtain ⟨k, rfl⟩ : ∃ m, k = m + 1 := ⟨k - 1, by omega⟩
    have hd : decide ((done.length : Int) < (T.length : Int)) = false := by simp at h2 ⊢; omega
    simp only [event_Get.l0, hd, Bool.false_eq_true, if_false]
    simp
  | d :: t, done, k, h1, h2, h3, h4 => by
    obtain ⟨k, rfl⟩ : ∃ m, k = m + 1 := ⟨k - 1, by omega⟩
    have hg : goodD d := h1 d (by simp)
    have ht : ∀ x ∈ t, goodD x := fun x hx => h1 x (by simp [hx])
    have hok : ∀ x ∈ t, okD x := fun x hx => by
      have := ht x hx
      cases x with
      | nil => exact this
      | i111 a => trivial
      | i108 s => have q : s.size ≤ 100 := this; show s.size ≤ 100000; omega
      | i112 d => exact this
    have hB : isB (t.flatMap bytD ++ r) := isB_app (isB_flat fun x hx => bytD_isB (hok x hx)) hr
    simp only [List.length_cons] at h2 h4
    have hd : decide ((done.length : Int) < (T.length : Int)) = true := by simp; omega
    have hl : (0 : Int) ≤ (done.length : Int) ∧ (done.length : Int) < ((done ++ tmplD d :: t.map tmplD).length : Int) := by
      simp only [List.length_append, List.length_cons, List.length_map]; omega
    have hw : wi64 ((done.length : Int) + 1) = (((done ++ [d]).length : Nat) : Int) := by rw [wi64_id (by omega)]; simp
    have ih := Get_l0 T r hr t (done ++ [d]) k ht (by simp only [List.length_append, List.length_cons, List.length_nil]; omega) h3 (by omega)
    simp only [event_Get.l0, hd, if_true, List.map_cons, hl, and_self, gt_mid, List.flatMap_cons, List.append_assoc, get_eq hg hB, Option.bind_some, Bool.not_true, Bool.false_eq_true, if_false]
    rw [set_mid, hw, ih]
    simp
theorem parts_tmpl (e : ApiEvent) : partsE ⟨e.Kind, 0, ⟨#[]⟩, 0, 0, z32⟩ = (partsE e).map tmplD := by
  rcases kinds e.Kind with k | k | k | k | k | k | k | k | ⟨k0, k4, k5, k1, k2, k3, k6, k7⟩
  all_goals first
    | (simp [partsE, k, tmplD]; done)
    | (simp [partsE, k0, k1, k2, k3, k4, k5, k6, k7])
theorem parts_good {e : ApiEvent} (h : okE e) (hN : e.Name.size ≤ 100) (hv : validE e = true) : ∀ d ∈ partsE e, goodD d := by
  obtain ⟨n1, n2, n3⟩ := valid_nums h hv
  have a1 : 0 ≤ e.ID ∧ e.ID ≤ 1125899906842624 := by omega
  have a2 : 0 ≤ e.Time ∧ e.Time ≤ 1125899906842624 := by omega
  have a3 : 0 ≤ e.Len ∧ e.Len ≤ 1125899906842624 := by omega
  intro d hd
  unfold partsE at hd
  repeat' split at hd
  all_goals simp at hd
  · rcases hd with rfl | rfl
    · exact a1
    · exact hN
  · rcases hd with rfl | rfl
    · exact a1
    · exact a3
  · rcases hd with rfl | rfl | rfl | rfl
    · exact a1
    · exact a2
    · exact a3
    · exact h.2
  · rcases hd with rfl | rfl
    · exact a1
    · exact a2
  · subst hd; exact a1
  · subst hd; exact a2
theorem Get_put {e : ApiEvent} (h : okE e) (hN : e.Name.size ≤ 100) (hv : validE e = true) {r : List Int} (hr : isB r) : event_Get (strOfNums (putE e ++ r)) = some (e, strOfNums r, true) := by
  have hk := valid_kind hv
  have hp := parts_ok h
  obtain ⟨f1, f2, f3⟩ := valid_form h hv
  have hB : isB ((partsE e).flatMap bytD ++ r) := isB_app (isB_flat fun x hx => bytD_isB (hp x hx)) hr
  have hlen := parts_len e
  have hF : FU = 4611686018427387904 := rfl
  unfold event_Get putE
  rw [List.append_assoc, gnum (by omega) (by omega) hB]
  have hk8 : ¬ e.Kind ≥ 8 := by omega
  have hpe : event_parts (ApiEvent.mk e.Kind 0 (⟨#[]⟩ : ByteArray) 0 0 (List.replicate 32 (0 : Int))) = some ((partsE e).map tmplD) := by
    rw [parts_eq]; exact congrArg some (parts_tmpl e)
  have hl := Get_l0 ((partsE e).map tmplD) r hr (partsE e) [] FU (parts_good h hN hv) (by simp) (by simp; omega) (by omega)
  simp only [List.nil_append, List.length_nil] at hl
  have hl' : event_Get.l0 ((partsE e).map tmplD) FU (strOfNums ((partsE e).flatMap bytD ++ r)) ((partsE e).map tmplD) 0 = some (.inr (strOfNums r, partsE e)) := hl
  have ho := of_eq h f1
  rw [f2] at ho
  simp only [Option.bind_some, Bool.not_true, Bool.false_eq_true, if_false, event_words, hk8, decide_false, hpe, hl', ho, event_Valid_eq h, hv]
end Go.Cen

/- EVENT: how long; what is not told. -/
set_option linter.unusedVariables false
set_option linter.unusedSimpArgs false
set_option maxRecDepth 100000
namespace Go.Cen
theorem len_cnt : ∀ l, isB l → l.length ≤ 4 * cnt l := by
  refine seg_ind (by simp [cnt_nil]) fun l hl hB ih => ?_
  rw [cnt_cons hl]
  have := dec_w l hl
  simp only [List.length_drop] at ih
  omega
theorem nm_small {s : ByteArray} (h : nmOk s = true) : s.size ≤ 96 := by
  unfold nmOk validN at h
  simp only [Bool.and_eq_true, decide_eq_true_eq] at h
  have := len_cnt (byts s) (byts_isB s)
  rw [byts_len] at this
  omega
theorem num6 {a : Int} (h0 : 0 ≤ a) (h : a ≤ 1099511627776) : (numL (clampN a)).length ≤ 6 := numL_len 5 _ (by have := clampN_id h0 (show a ≤ 1125899906842624 by omega); omega)
theorem num1 {a : Int} (h0 : 0 ≤ a) (h : a ≤ 127) : numL (clampN a) = [a] := by
  have := clampN_id h0 (show a ≤ 1125899906842624 by omega)
  rw [numL_lt (by omega), this]
theorem num2 {a : Int} (h0 : 0 ≤ a) (h : a ≤ 600) : (numL (clampN a)).length ≤ 2 := numL_len 1 _ (by have := clampN_id h0 (show a ≤ 1125899906842624 by omega); omega)
theorem valid_name {e : ApiEvent} (hv : validE e = true) : e.Name.size ≤ 96 := by
  have he : (⟨#[]⟩ : ByteArray).size = 0 := rfl
  rcases kinds e.Kind with k | k | k | k | k | k | k | k | ⟨k0, k4, k5, k1, k2, k3, k6, k7⟩
  case inr.inr.inr.inr.inr.inr.inr.inr => simp [validE, k0, k1, k2, k3, k4, k5, k6, k7] at hv
  all_goals simp [validE, k] at hv
  all_goals first
    | exact nm_small hv.2.1
    | (have := (noS_eq _).1 hv.2.1; rw [this, he]; omega)
theorem put_shape {e : ApiEvent} (h : okE e) (hv : validE e = true) : ∃ t, putE e = e.Kind :: t ∧ 1 ≤ t.length ∧ t.length ≤ 109 := by
  have hk := valid_kind hv
  obtain ⟨⟨i1, i2⟩, ⟨t1, t2⟩, ⟨l1, l2⟩⟩ := valid_nums h hv
  have hn := valid_name hv
  refine ⟨(partsE e).flatMap bytD, by unfold putE; rw [num1 (by omega) (by omega)]; rfl, ?_⟩
  have a1 := num6 i1 i2; have a2 := num6 t1 t2; have a3 := num2 l1 l2
  have p1 := numL_pos (clampN e.ID); have p2 := numL_pos (clampN e.Time); have p3 := numL_pos (clampN e.Len)
  have a4 : numL (clampN (e.Name.size : Int)) = [(e.Name.size : Int)] := num1 (by omega) (by omega)
  have a5 := h.2.1
  have hb := byts_len e.Name
  rcases kinds e.Kind with k | k | k | k | k | k | k | k | ⟨k0, k4, k5, k1, k2, k3, k6, k7⟩
  case inr.inr.inr.inr.inr.inr.inr.inr => simp [validE, k0, k1, k2, k3, k4, k5, k6, k7] at hv
  · rw [show partsE e = [.i111 e.ID, .i108 e.Name] from by simp [partsE, k]]
    simp [bytD, a4, hb]; omega
  · rw [show partsE e = [.i111 e.ID, .i108 e.Name] from by simp [partsE, k]]
    simp [bytD, a4, hb]; omega
  · rw [show partsE e = [.i111 e.ID, .i108 e.Name] from by simp [partsE, k]]
    simp [bytD, a4, hb]; omega
  · rw [show partsE e = [.i111 e.ID, .i111 e.Len] from by simp [partsE, k]]
    simp [bytD]; omega
  · rw [show partsE e = [.i111 e.ID, .i111 e.Time, .i111 e.Len, .i112 e.Sum] from by simp [partsE, k]]
    simp [bytD, a5]; omega
  · rw [show partsE e = [.i111 e.ID, .i111 e.Time] from by simp [partsE, k]]
    simp [bytD]; omega
  · rw [show partsE e = [.i111 e.ID] from by simp [partsE, k]]
    simp [bytD]; omega
  · rw [show partsE e = [.i111 e.Time] from by simp [partsE, k]]
    simp [bytD]; omega
end Go.Cen
