/- EVENT: whether an event may be, and its bytes. -/
import Derived.Test.YtjbofffabkimeaaATNameI
import Derived.Test.YtjbofffabkimeaaAWireA
import Derived.Test.YtjbofffabkimeaaCenPl
set_option linter.unusedVariables false
set_option linter.unusedSimpArgs false
namespace Go.Cen
def z32 : List Int := List.replicate 32 0
def nmOk (s : ByteArray) : Bool := validN (byts s)
theorem name_Valid_eq (s : ByteArray) (h : s.size ≤ 100000) : name_Valid s = some (nmOk s) := by
  have := name_Valid_str (l := byts s) (byts_isB s) (by rw [byts_len]; exact Nat.le_trans h (by decide))
  rwa [strOfNums_byts] at this
def timeOk (t : Int) : Bool := decide (0 ≤ t) && decide (t ≤ 1099511627776)
def idOk (i : Int) : Bool := decide (1 ≤ i) && decide (i ≤ 1099511627776)
def lenOk (lo n : Int) : Bool := decide (lo ≤ n) && decide (n ≤ 600)
def noS (s : ByteArray) : Bool := seq s (⟨#[]⟩ : ByteArray)
def noD (d : List Int) : Bool := eqA d z32
theorem within_eq (a b c : Int) : event_within a b c = some (decide (b ≤ a) && decide (a ≤ c)) := by
  unfold event_within
  by_cases h : b ≤ a
  · simp [h]
  · simp [h]
/-- what an event tells -/
def partsE (e : ApiEvent) : List Dyn43 :=
  if e.Kind = 0 ∨ e.Kind = 4 ∨ e.Kind = 5 then [.i53 e.ID, .i54 e.Name] else if e.Kind = 1 then [.i53 e.ID, .i53 e.Len] else if e.Kind = 2 then [.i53 e.ID, .i53 e.Time, .i53 e.Len, .i60 e.Sum]
  else if e.Kind = 3 then [.i53 e.ID, .i53 e.Time] else if e.Kind = 6 then [.i53 e.ID] else if e.Kind = 7 then [.i53 e.Time] else []
theorem parts_eq (e : ApiEvent) : event_parts e = some (partsE e) := by
  unfold event_parts partsE
  by_cases h0 : e.Kind = 0
  · simp [h0]
  · by_cases h4 : e.Kind = 4
    · simp [h4]
    · by_cases h5 : e.Kind = 5
      · simp [h5]
      · by_cases h1 : e.Kind = 1
        · simp [h1]
        · by_cases h2 : e.Kind = 2
          · simp [h2]
          · by_cases h3 : e.Kind = 3
            · simp [h3]
            · by_cases h6 : e.Kind = 6
              · simp [h6]
              · by_cases h7 : e.Kind = 7
                · simp [h7]
                · simp [h0, h1, h2, h3, h4, h5, h6, h7]
def okD (d : Dyn43) : Prop := match d with | .nil => False | .i53 _ => True | .i54 s => s.size ≤ 100000 | .i60 d => d.length = 32 ∧ isB d
def okE (e : ApiEvent) : Prop := e.Name.size ≤ 100000 ∧ e.Sum.length = 32 ∧ isB e.Sum
theorem parts_ok {e : ApiEvent} (h : okE e) : ∀ d ∈ partsE e, okD d := by
  intro d hd
  unfold partsE at hd
  repeat' split at hd
  all_goals simp at hd
  all_goals (try (rcases hd with rfl | rfl | rfl | rfl) <;> (try trivial) <;> first | exact h.1 | exact h.2)
  all_goals (try (rcases hd with rfl | rfl) <;> (try trivial) <;> first | exact h.1 | exact h.2)
  all_goals (try subst hd; trivial)
theorem parts_len (e : ApiEvent) : (partsE e).length ≤ 4 := by
  unfold partsE
  repeat' split
  all_goals simp
def nums : List Dyn43 → List Int
  | [] => []
  | .i53 a :: r => a :: nums r
  | _ :: r => nums r
def upd : List Dyn43 → ApiEvent → ApiEvent
  | [], e => e
  | .i54 s :: r, e => upd r { e with Name := s }
  | .i60 d :: r, e => upd r { e with Sum := d }
  | _ :: r, e => upd r e
theorem of_l0 (l : List Dyn43) (hl : ∀ d ∈ l, okD d) (hn : l.length ≤ 1000) (e : ApiEvent) : event_of.l0 l FU [] 0 e = some (nums l, upd l e) := by
  have hL := LIM_val
  have := loopI l (by omega) (fun k i (s : List Int × ApiEvent) => event_of.l0 l k s.1 i s.2) (fun r s => some (s.1 ++ nums r, upd r s.2)) (fun r s => s.1.length + r.length ≤ 1000)
    (fun k s hd hI => by simp only [event_of.l0, hd, nums, upd, List.append_nil]; rfl)
    (fun k i x r s hi hlen hm hd hg hx hw hI ih => by
      have hok := hl x hm
      simp only [List.length_cons] at hI
      simp only [event_of.l0, hd, if_true, hg, and_self, hx]
      cases x with
      | nil => exact hok.elim
      | i53 a =>
        have hq : s.1.length + ([a] : List Int).length ≤ LIM := by simp only [List.length_cons, List.length_nil]; omega
        simp only [hq, if_true, Option.bind_some, hw]
        have := ih (s.1 ++ [a], s.2) (by simp only [List.length_append, List.length_cons, List.length_nil]; omega)
        simp only at this
        rw [this]; simp [nums, upd]
      | i54 a =>
        simp only [Option.bind_some, hw]
        have := ih (s.1, { s.2 with Name := a }) (by simp only; omega)
        simp only at this
        rw [this]; simp [nums, upd]
      | i60 a =>
        simp only
        rw [if_pos hok.1]
        simp only [Option.bind_some, hw]
        have := ih (s.1, { s.2 with Sum := a }) (by simp only; omega)
        simp only at this
        rw [this]; simp [nums, upd]) ([], e) (by simpa using hn)
  simpa using this
/-- the last name among parts -/
def namedL : List Dyn43 → Bool → Bool
  | [], b => b
  | .i54 s :: r, _ => namedL r (nmOk s)
  | _ :: r, b => namedL r b
theorem valid_l0 (l : List Dyn43) (hl : ∀ d ∈ l, okD d) (hn : l.length ≤ 1000) (b : Bool) : event_Valid.l0 l FU b 0 = some (namedL l b) := by
  have := loopG l (by omega) (fun k i (s : Bool) => event_Valid.l0 l k s i) (fun r s => some (namedL r s))
    (fun k s hd => by simp only [event_Valid.l0, hd, namedL]; rfl)
    (fun k i x r s hi hlen hd hg hx hw ih => by
      have hm : x ∈ l := by rw [← hx, gt_nat l i hi]; exact List.getElem_mem _
      have hok := hl x hm
      simp only [event_Valid.l0, hd, if_true, hg, and_self, hx]
      cases x with
      | nil => exact hok.elim
      | i53 a => simp only [Option.bind_some, hw]; rw [ih]; simp [namedL]
      | i54 a => simp only [name_Valid_eq a hok, Option.bind_some, hw]; rw [ih]; simp [namedL]
      | i60 a =>
        simp only
        rw [if_pos hok.1]
        simp only [Option.bind_some, hw]; rw [ih]; simp [namedL]) b
  exact this
def bytD : Dyn43 → List Int
  | .nil => []
  | .i53 a => numL (clampN a)
  | .i54 s => numL (clampN (s.size : Int)) ++ byts s
  | .i60 d => d
theorem clampN_len (a : Int) : (numL (clampN a)).length ≤ 8 := numL_len 7 (clampN a) (by have := clampN_le a; omega)
theorem bytD_isB {d : Dyn43} (h : okD d) : isB (bytD d) := by
  cases d with
  | nil => exact isB_nil
  | i53 a => exact numL_isB _
  | i54 s => exact isB_app (numL_isB _) (byts_isB s)
  | i60 d => exact h.2
theorem bytD_len {d : Dyn43} (h : okD d) : (bytD d).length ≤ 100008 := by
  cases d with
  | nil => simp [bytD]
  | i53 a => have := clampN_len a; simp only [bytD]; omega
  | i54 s =>
    have h1 := clampN_len (s.size : Int)
    have h2 : s.size ≤ 100000 := h
    simp only [bytD, List.length_append, byts_len]; omega
  | i60 d => have := h.1; simp only [bytD]; omega
theorem wire_Text_eq (s : ByteArray) (h : s.size ≤ 100000) : wire_Text s = some (strOfNums (numL (clampN (s.size : Int)) ++ byts s)) := by
  have hL := LIM_val
  have := clampN_len (s.size : Int)
  unfold wire_Text
  rw [wire_Num_eq]
  simp only [Option.bind_some, strOfNums_size]
  rw [if_pos (by omega)]
  congr 1
  rw [← strOfNums_append, strOfNums_byts]
theorem put_l0 (l : List Dyn43) (hl : ∀ d ∈ l, okD d) (hn : l.length ≤ 10) (xs : List Int) (hx : xs.length ≤ 100) : event_Put.l0 l FU (strOfNums xs) 0 = some (strOfNums (xs ++ l.flatMap bytD)) := by
  have hL := LIM_val
  have := loopI l (by omega) (fun k i (s : List Int) => event_Put.l0 l k (strOfNums s) i) (fun r s => some (strOfNums (s ++ r.flatMap bytD))) (fun r s => s.length + 100008 * r.length ≤ 10000000)
    (fun k s hd hI => by simp only [event_Put.l0, hd, List.flatMap_nil, List.append_nil]; rfl)
    (fun k i x r s hi hlen hm hd hg hx hw hI ih => by
      have hok := hl x hm
      have hb := bytD_len hok
      simp only [List.length_cons] at hI
      simp only [event_Put.l0, hd, if_true, hg, and_self, hx]
      have step : event_Put.l0 l k (strOfNums s ++ strOfNums (bytD x)) (((i + 1 : Nat)) : Int) = some (strOfNums (s ++ (x :: r).flatMap bytD)) := by
        rw [strOfNums_append, ih (s ++ bytD x) (by rw [List.length_append]; omega)]
        simp
      cases x with
      | nil => exact hok.elim
      | i53 a =>
        have hq : s.length + (numL (clampN a)).length ≤ LIM := by simp only [bytD] at hb; omega
        simp only [event_number_put, wire_Num_eq, Option.bind_some, strOfNums_size, hq, if_true, hw]
        exact step
      | i54 a =>
        have hq : s.length + (numL (clampN (a.size : Int)) ++ byts a).length ≤ LIM := by simp only [bytD] at hb; omega
        simp only [event_text_put, wire_Text_eq a hok, Option.bind_some, strOfNums_size, hq, if_true, hw]
        exact step
      | i60 a =>
        have hq : s.length + a.length ≤ LIM := by simp only [bytD] at hb; omega
        have h32 : a.length = 32 := hok.1
        simp only [h32, if_true, event_sum_put, wire_Sum, Option.bind_some, strOfNums_size]
        rw [h32] at hq
        simp only [hq, if_true, Option.bind_some, hw]
        exact step) xs (by omega)
  exact this
def validE (e : ApiEvent) : Bool :=
  if e.Kind = 0 ∨ e.Kind = 4 ∨ e.Kind = 5 then idOk e.ID && (nmOk e.Name && ((e.Time == 0) && ((e.Len == 0) && noD e.Sum)))
  else if e.Kind = 1 then idOk e.ID && (noS e.Name && ((e.Time == 0) && (lenOk 1 e.Len && noD e.Sum)))
  else if e.Kind = 2 then idOk e.ID && (noS e.Name && (timeOk e.Time && lenOk 0 e.Len))
  else if e.Kind = 3 then idOk e.ID && (noS e.Name && (timeOk e.Time && ((e.Len == 0) && noD e.Sum)))
  else if e.Kind = 6 then idOk e.ID && (noS e.Name && ((e.Time == 0) && ((e.Len == 0) && noD e.Sum)))
  else if e.Kind = 7 then (e.ID == 0) && (noS e.Name && (timeOk e.Time && ((e.Len == 0) && noD e.Sum)))
  else false
theorem seq_symm (a b : ByteArray) : seq a b = seq b a := by rw [Bool.eq_iff_iff, seq_iff, seq_iff]; exact eq_comm
theorem eqA_symm (a b : List Int) : eqA a b = eqA b a := by rw [Bool.eq_iff_iff, eqA_iff, eqA_iff]; exact eq_comm
theorem seq_refl (s : ByteArray) : seq s s = true := (seq_iff s s).2 rfl
theorem eqA_refl (s : List Int) : eqA s s = true := (eqA_iff s s).2 rfl
end Go.Cen
