/- EVENT: whether an event may be, and its bytes. -/
import Derived.Test.YthdoklobbcedcadVTNameK
import Derived.Test.YthdoklobbcedcadVWireA
import Derived.Test.YthdoklobbcedcadCenPl
set_option linter.unusedVariables false
set_option linter.unusedSimpArgs false
namespace Go.Cen
def z32 : List Int := List.replicate 32 0
def nmOk (s : ByteArray) : Bool := validN (byts s)
theorem name_Valid_eq (s : ByteArray) (h : s.size ≤ 100000) : name_Valid s = some (nmOk s) := by
  have := name_Valid_str (l := byts s) (byts_isB s) (by rw [byts_len]; exact Nat.le_trans h (by decide))
  rwa [strOfNums_byts] at this
def timeOk (t : Int) : Bool := decide (0 ≤ t) && decide (t ≤ 1099511627776)
def idOk (i : Int) : Bool := decide (1 ≤ i) && decide (i ≤ 1099511627776)
def lenOk (lo n : Int) : Bool := decide (lo ≤ n) && decide (n ≤ 600)
def noS (s : ByteArray) : Bool := seq s (⟨#[]⟩ : ByteArray)
def noD (d : List Int) : Bool := eqA d z32
theorem within_eq (a b c : Int) : event_within a b c = some (decide (b ≤ a) && decide (a ≤ c)) := by
  unfold event_within
  by_cases h : b ≤ a
  · simp [h]
  · simp [h]
/-- what an event tells -/
def partsE (e : ApiEvent) : List Dyn46 :=
  if e.Kind = 0 ∨ e.Kind = 4 ∨ e.Kind = 5 then [.i68 e.ID, .i53 e.Name] else if e.Kind = 1 then [.i68 e.ID, .i68 e.Len] else if e.Kind = 2 then [.i68 e.ID, .i68 e.Time, .i68 e.Len, .i71 e.Sum]
  else if e.Kind = 3 then [.i68 e.ID, .i68 e.Time] else if e.Kind = 6 then [.i68 e.ID] else if e.Kind = 7 then [.i68 e.Time] else []
theorem parts_eq (e : ApiEvent) : event_parts e = some (partsE e) := by
  unfold event_parts partsE
  by_cases h0 : e.Kind = 0
  · simp [h0]
  · by_cases h4 : e.Kind = 4
    · simp [h4]
    · by_cases h5 : e.Kind = 5
      · simp [h5]
      · by_cases h1 : e.Kind = 1
        · simp [h1]
        · by_cases h2 : e.Kind = 2
          · simp [h2]
          · by_cases h3 : e.Kind = 3
            · simp [h3]
            · by_cases h6 : e.Kind = 6
              · simp [h6]
              · by_cases h7 : e.Kind = 7
                · simp [h7]
                · simp [h0, h1, h2, h3, h4, h5, h6, h7]
def okD (d : Dyn46) : Prop := match d with | .nil => False | .i68 _ => True | .i53 s => s.size ≤ 100000 | .i71 d => d.length = 32 ∧ isB d
def okE (e : ApiEvent) : Prop := e.Name.size ≤ 100000 ∧ e.Sum.length = 32 ∧ isB e.Sum
theorem parts_ok {e : ApiEvent} (h : okE e) : ∀ d ∈ partsE e, okD d := by
  intro d hd
  unfold partsE at hd
  repeat' split at hd
  all_goals simp at hd
  all_goals (try (rcases hd with rfl | rfl | rfl | rfl) <;> (try trivial) <;> first | exact h.1 | exact h.2)
  all_goals (try (rcases hd with rfl | rfl) <;> (try trivial) <;> first | exact h.1 | exact h.2)
  all_goals (try subst hd; trivial)
theorem parts_len (e : ApiEvent) : (partsE e).length ≤ 4 := by
  unfold partsE
  repeat' split
  all_goals simp
def nums : List Dyn46 → List Int
  | [] => []
  | .i68 a :: r => a :: nums r
  | _ :: r => nums r
def upd : List Dyn46 → ApiEvent → ApiEvent
  | [], e => e
  | .i53 s :: r, e => upd r { e with Name := s }
  | .i71 d :: r, e => upd r { e with Sum := d }
  | _ :: r, e => upd r e
theorem of_l0 (l : List Dyn46) (hl : ∀ d ∈ l, okD d) (hn : l.length ≤ 1000) (e : ApiEvent) : event_of.l0 l FU [] 0 e = some (nums l, upd l e) := by
  have hL := LIM_val
  have := loopI l (by omega) (fun k i (s : List Int × ApiEvent) => event_of.l0 l k s.1 i s.2) (fun r s => some (s.1 ++ nums r, upd r s.2)) (fun r s => s.1.length + r.length ≤ 1000)
    (fun k s hd hI => by simp only [event_of.l0, hd, nums, upd, List.append_nil]; rfl)
    (fun k i x r s hi hlen hm hd hg hx hw hI ih => by
      have hok := hl x hm
      simp only [List.length_cons] at hI
      simp only [event_of.l0, hd, if_true, hg, and_self, hx]
      cases x with
      | nil => exact hok.elim
      | i68 a =>
        have hq : s.1.length + ([a] : List Int).length ≤ LIM := by simp only [List.length_cons, List.length_nil]; omega
        simp only [hq, if_true, Option.bind_some, hw]
        have := ih (s.1 ++ [a], s.2) (by simp only [List.length_append, List.length_cons, List.length_nil]; omega)
        simp only at this
        rw [this]; simp [nums, upd]
      | i53 a =>
        simp only [Option.bind_some, hw]
        have := ih (s.1, { s.2 with Name := a }) (by simp only; omega)
        simp only at this
        rw [this]; simp [nums, upd]
      | i71 a =>
        simp only
        rw [if_pos hok.1]
        simp only [Option.bind_some, hw]
        have := ih (s.1, { s.2 with Sum := a }) (by simp only; omega)
        simp only at this
        rw [this]; simp [nums, upd]) ([], e) (by simpa using hn)
  simpa using this
/-- the last name among parts -/
def namedL : List Dyn46 → Bool → Bool
  | [], b => b
  | .i53 s :: r, _ => namedL r (nmOk s)
  | _ :: r, b => namedL r b
theorem valid_l0 (l : List Dyn46) (hl : ∀ d ∈ l, okD d) (hn : l.length ≤ 1000) (b : Bool) : event_Valid.l0 l FU b 0 = some (namedL l b) := by
  have := loopG l (by omega) (fun k i (s : Bool) => event_Valid.l0 l k s i) (fun r s => some (namedL r s))
    (fun k s hd => by simp only [event_Valid.l0, hd, namedL]; rfl)
    (fun k i x r s hi hlen hd hg hx hw ih => by
      have hm : x ∈ l := by rw [← hx, gt_nat l i hi]; exact List.getElem_mem _
      have hok := hl x hm
      simp only [event_Valid.l0, hd, if_true, hg, and_self, hx]
      cases x with
      | nil => exact hok.elim
      | i68 a => simp only [Option.bind_some, hw]; rw [ih]; simp [namedL]
      | i53 a => simp only [name_Valid_eq a hok, Option.bind_some, hw]; rw [ih]; simp [namedL]
      | i71 a =>
        simp only
        rw [if_pos hok.1]
        simp only [Option.bind_some, hw]; rw [ih]; simp [namedL]) b
  exact this
def bytD : Dyn46 → List Int
  | .nil => []
  | .i68 a => numL (clampN a)
  | .i53 s => numL (clampN (s.size : Int)) ++ byts s
  | .i71 d => d
theorem bytD_isB {d : Dyn46} (h : okD d) : isB (bytD d) := by
  cases d with
  | nil => exact isB_nil
  | i68 a => exact numL_isB _
  | i53 s => exact isB_app (numL_isB _) (byts_isB s)
  | i71 d => exact h.2
def validE (e : ApiEvent) : Bool :=
  if e.Kind = 0 ∨ e.Kind = 4 ∨ e.Kind = 5 then idOk e.ID && (nmOk e.Name && ((e.Time == 0) && ((e.Len == 0) && noD e.Sum)))
  else if e.Kind = 1 then idOk e.ID && (noS e.Name && ((e.Time == 0) && (lenOk 1 e.Len && noD e.Sum)))
  else if e.Kind = 2 then idOk e.ID && (noS e.Name && (timeOk e.Time && lenOk 0 e.Len))
  else if e.Kind = 3 then idOk e.ID && (noS e.Name && (timeOk e.Time && ((e.Len == 0) && noD e.Sum)))
  else if e.Kind = 6 then idOk e.ID && (noS e.Name && ((e.Time == 0) && ((e.Len == 0) && noD e.Sum)))
  else if e.Kind = 7 then (e.ID == 0) && (noS e.Name && (timeOk e.Time && ((e.Len == 0) && noD e.Sum)))
  else false
theorem seq_symm (a b : ByteArray) : seq a b = seq b a := by rw [Bool.eq_iff_iff, seq_iff, seq_iff]; exact eq_comm
theorem eqA_symm (a b : List Int) : eqA a b = eqA b a := by rw [Bool.eq_iff_iff, eqA_iff, eqA_iff]; exact eq_comm
theorem seq_refl (s : ByteArray) : seq s s = true := (seq_iff s s).2 rfl
theorem eqA_refl (s : List Int) : eqA s s = true := (eqA_iff s s).2 rfl
end Go.Cen
