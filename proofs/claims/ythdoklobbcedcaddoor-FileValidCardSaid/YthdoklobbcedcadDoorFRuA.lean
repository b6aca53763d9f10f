/- RULE: holds. -/
import Derived.Test.YthdoklobbcedcadDoorFTNameI
set_option linter.unusedVariables false
set_option linter.unusedSimpArgs false
set_option maxRecDepth 100000
namespace Go.Cen
def vN (s : ByteArray) : Bool := validN (byts s)
def ltS (s t : ByteArray) : Bool := lessL (runesL (byts s)) (runesL (byts t))
theorem vN_eq {s : ByteArray} (h : s.size ≤ 1000) : name_Valid s = some (vN s) := by
  have := name_Valid_str (l := byts s) (byts_isB s) (by rw [byts_len]; omega)
  rwa [strOfNums_byts] at this
theorem ltS_eq {s t : ByteArray} (hs : s.size ≤ 1000) (ht : t.size ≤ 1000) : name_Less s t = some (ltS s t) := by
  have := name_Less_str (a := byts s) (b := byts t) (byts_isB s) (byts_isB t) (by rw [byts_len]; omega) (by rw [byts_len]; omega)
  rwa [strOfNums_byts, strOfNums_byts] at this
theorem runes_ne {s t : ByteArray} (h : s ≠ t) : runesL (byts s) ≠ runesL (byts t) := fun e => h (by
  have := runesL_inj _ (byts_isB s) _ (byts_isB t) e
  rw [← strOfNums_byts s, ← strOfNums_byts t, this])
theorem ltS_total {s t : ByteArray} (h : s ≠ t) (h2 : ltS s t = false) : ltS t s = true := by
  have := lessL_total _ _ (runes_ne h)
  rw [Bool.or_eq_true] at this
  rcases this with q | q
  · rw [show lessL (runesL (byts s)) (runesL (byts t)) = ltS s t from rfl, h2] at q; cases q
  · exact q
theorem ltS_trans {s t u : ByteArray} (h : ltS s t = true) (h2 : ltS t u = true) : ltS s u = true := lessL_trans _ _ _ h h2
/-! ### where a text stands -/
def smallL (l : List ByteArray) : Prop := l.length ≤ 1000 ∧ ∀ x ∈ l, x.size ≤ 1000
theorem smallL.gt {l : List ByteArray} (h : smallL l) {i : Nat} (hi : i < l.length) : (gt l (i : Int)).size ≤ 1000 := by rw [gt_nat l i hi]; exact h.2 _ (List.getElem_mem hi)
theorem index_eq (l : List ByteArray) (s : ByteArray) (h : l.length ≤ 100000) : slices_Index_string l s = some (fidx (fun x => seq s x) l) := by
  unfold slices_Index_string
  rw [loop_idx l (by omega) (fun x => seq s x) (fun i => i) (slices_Index_string.l0 l s) (fun k hd => by simp only [slices_Index_string.l0, hd]; rfl)
    (fun k i hi hd hg hw => by simp only [slices_Index_string.l0, hd, if_true, hg, and_self, hw, decide_true])]
  have := fidx_ge (fun x => seq s x) l
  by_cases q : fidx (fun x => seq s x) l < 0
  · rw [if_pos q]; simp only [Option.bind_some]; congr 1; omega
  · rw [if_neg q]; rfl
def hasS (l : List ByteArray) (s : ByteArray) : Bool := l.any (fun x => seq s x)
theorem contains_eq (l : List ByteArray) (s : ByteArray) (h : l.length ≤ 100000) : slices_Contains_string l s = some (hasS l s) := by
  unfold slices_Contains_string
  rw [index_eq l s h]
  simp only [Option.bind_some, fidx_any]; rfl
theorem behind_eq {s x : ByteArray} (hs : s.size ≤ 1000) (hx : x.size ≤ 1000) : rule_label_behind s x = some (!ltS x s) := by
  unfold rule_label_behind; rw [ltS_eq hx hs]; rfl
theorem indexF_eq {l : List ByteArray} {s : ByteArray} (h : smallL l) (hs : s.size ≤ 1000) : slices_IndexFunc_string__rule_label_behind l s = some (fidx (fun x => !ltS x s) l) := by
  unfold slices_IndexFunc_string__rule_label_behind
  have hl := h.1
  rw [loop_idx l (by omega) (fun x => !ltS x s) (fun i => i) (slices_IndexFunc_string__rule_label_behind.l0 l s) (fun k hd => by simp only [slices_IndexFunc_string__rule_label_behind.l0, hd]; rfl)
    (fun k i hi hd hg hw => by
      simp only [slices_IndexFunc_string__rule_label_behind.l0, hd, if_true, hg, and_self, hw, behind_eq hs (h.gt hi), Option.bind_some, decide_true])]
  have := fidx_ge (fun x => !ltS x s) l
  by_cases q : fidx (fun x => !ltS x s) l < 0
  · rw [if_pos q]; simp only [Option.bind_some]; congr 1; omega
  · rw [if_neg q]; rfl
def insL (s : ByteArray) : List ByteArray → List ByteArray
  | [] => [s]
  | x :: r => if ltS x s = true then x :: insL s r else s :: x :: r
def delL (s : ByteArray) : List ByteArray → List ByteArray
  | [] => []
  | x :: r => if seq s x = true then r else x :: delL s r
theorem insL_len (s : ByteArray) : ∀ l, (insL s l).length = l.length + 1
  | [] => rfl
  | x :: r => by
    unfold insL; split
    · simp [insL_len s r]
    · rfl
theorem insL_at (s : ByteArray) : ∀ l, (if fidx (fun x => !ltS x s) l < 0 then l ++ [s] else l.take (fidx (fun x => !ltS x s) l).toNat ++ [s] ++ l.drop (fidx (fun x => !ltS x s) l).toNat) = insL s l
  | [] => rfl
  | x :: r => by
    have ih := insL_at s r
    rw [fidx_cons]; unfold insL
    have := fidx_ge (fun x => !ltS x s) r
    by_cases h : ltS x s = true
    · rw [if_pos h]
      simp only [h, Bool.not_true, Bool.false_eq_true, if_false]
      by_cases q : fidx (fun x => !ltS x s) r < 0
      · rw [if_pos q] at ih ⊢
        rw [if_pos (by decide), ← ih]; rfl
      · rw [if_neg q] at ih ⊢
        rw [if_neg (by omega), ← ih]
        have e : (fidx (fun x => !ltS x s) r + 1).toNat = (fidx (fun x => !ltS x s) r).toNat + 1 := by omega
        rw [e]; simp
    · rw [if_neg h]
      have h' : ltS x s = false := by simpa using h
      simp [h']
theorem insS_eq {s : ByteArray} {l : List ByteArray} (h : l.length ≤ 1000) : insS l (if fidx (fun x => !ltS x s) l < 0 then (l.length : Int) else fidx (fun x => !ltS x s) l) [s] = some (insL s l) := by
  have hl := fidx_lt (fun x => !ltS x s) l
  have hg := fidx_ge (fun x => !ltS x s) l
  rw [← insL_at s l]
  have hL : LIM = 1099511627776 := rfl
  unfold insS
  by_cases q : fidx (fun x => !ltS x s) l < 0
  · simp only [if_pos q]
    rw [if_pos ⟨by omega, by omega, by simp, by simp; omega⟩]
    simp
  · simp only [if_neg q]
    rw [if_pos ⟨by omega, by omega, by simp, by simp; omega⟩]
theorem delL_at (s : ByteArray) : ∀ l, ¬ fidx (fun x => seq s x) l < 0 → l.take (fidx (fun x => seq s x) l).toNat ++ l.drop ((fidx (fun x => seq s x) l).toNat + 1) = delL s l
  | [], h => absurd (by rw [fidx_nil]; decide) h
  | x :: r, h => by
    have ih := delL_at s r
    rw [fidx_cons] at h ⊢; unfold delL
    have := fidx_ge (fun x => seq s x) r
    by_cases q : seq s x = true
    · simp [q]
    · simp only [if_neg q] at h ⊢
      by_cases q2 : fidx (fun x => seq s x) r < 0
      · rw [if_pos q2] at h; exact absurd (by decide) h
      · rw [if_neg q2]
        rw [← ih q2]
        have e : (fidx (fun x => seq s x) r + 1).toNat = (fidx (fun x => seq s x) r).toNat + 1 := by omega
        rw [e]; simp
theorem delS_eq {s : ByteArray} {l : List ByteArray} (h : l.length ≤ 1000) (q : ¬ fidx (fun x => seq s x) l < 0) : delS l (fidx (fun x => seq s x) l) (wi64 (fidx (fun x => seq s x) l + 1)) = some (delL s l) := by
  have hl := fidx_lt (fun x => seq s x) l
  rw [wi64_id (by omega)]
  unfold delS
  rw [if_pos ⟨by omega, by omega, by omega, by omega⟩, ← delL_at s l q]
  have e : (fidx (fun x => seq s x) l + 1).toNat = (fidx (fun x => seq s x) l).toNat + 1 := by omega
  rw [e]
theorem hasS_iff {l : List ByteArray} {s : ByteArray} : hasS l s = true ↔ s ∈ l := by
  unfold hasS
  rw [List.any_eq_true]
  constructor
  · rintro ⟨x, hx, h⟩; rw [(seq_iff s x).1 h]; exact hx
  · exact fun h => ⟨s, h, (seq_iff s s).2 rfl⟩
theorem clone_eq (l : List ByteArray) (h : l.length ≤ 100000) : slices_Clone_string l = some l := by
  have hL : LIM = 1099511627776 := rfl
  unfold slices_Clone_string
  rw [if_pos (by simp; omega)]; rfl
/-! ### the functions -/
def holdF (sd : Bool) (l : List ByteArray) (s : ByteArray) : List ByteArray × Int :=
  if sd = false then (l, 6) else if vN s = false then (l, 2) else if hasS l s = true then (l, 4) else if 4 ≤ l.length then (l, 10) else (insL s l, 0)
theorem Hold_eq (i : Int) (nm da : ByteArray) (sd : Bool) (un : Int) {l : List ByteArray} {s : ByteArray} (h : smallL l) (hs : s.size ≤ 1000) :
    rule_Hold i nm da sd un l s = some (i, nm, da, sd, un, (holdF sd l s).1, (holdF sd l s).2) := by
  have hl := h.1
  unfold rule_Hold holdF
  cases sd with
  | false => rfl
  | true =>
    rw [vN_eq hs, contains_eq l s (by omega), indexF_eq h hs, clone_eq l (by omega)]
    cases vN s with
    | false => rfl
    | true =>
      cases hasS l s with
      | true => rfl
      | false =>
        by_cases q : 4 ≤ l.length
        · have : decide ((l.length : Int) ≥ 4) = true := by simp; omega
          simp [this, q]
        · have : decide ((l.length : Int) ≥ 4) = false := by simp; omega
          have e := insS_eq (s := s) hl
          by_cases q2 : fidx (fun x => !ltS x s) l < 0
          · rw [if_pos q2] at e
            simp [this, q, q2, e]
          · rw [if_neg q2] at e
            simp [this, q, q2, e]
def relF (l : List ByteArray) (s : ByteArray) : List ByteArray × Int := if hasS l s = true then (delL s l, 0) else (l, 3)
theorem Release_eq (i : Int) (nm da : ByteArray) (sd : Bool) (un : Int) {l : List ByteArray} {s : ByteArray} (h : l.length ≤ 1000) :
    rule_Release i nm da sd un l s = some (i, nm, da, sd, un, (relF l s).1, (relF l s).2) := by
  unfold rule_Release relF
  rw [index_eq l s (by omega), clone_eq l (by omega)]
  have e : decide (fidx (fun x => seq s x) l ≥ 0) = hasS l s := fidx_any _ l
  simp only [Option.bind_some]
  by_cases q : fidx (fun x => seq s x) l < 0
  · have e2 : hasS l s = false := by rw [← e]; simp; omega
    simp [q, e2]
  · have e2 : hasS l s = true := by rw [← e]; simp; omega
    simp only [q, decide_false, Bool.false_eq_true, if_false, delS_eq h q, Option.bind_some, e2, if_true]
def timeB (t : Int) : Bool := decide (0 ≤ t) && decide (t ≤ 1099511627776)
theorem timely_eq (t : Int) : rule_timely t = some (timeB t) := by
  unfold rule_timely timeB
  by_cases h : 0 ≤ t <;> simp [h]
def extF (sd : Bool) (un t : Int) : Int × Int := if sd = false then (un, 6) else if timeB t = false then (un, 1) else if t < un then (un, 7) else (t, 0)
theorem Extend_eq (i : Int) (nm da : ByteArray) (sd : Bool) (un : Int) (l : List ByteArray) (t : Int) :
    rule_Extend i nm da sd un l t = some (i, nm, da, sd, (extF sd un t).1, l, (extF sd un t).2) := by
  unfold rule_Extend extF
  rw [timely_eq]
  cases sd with
  | false => rfl
  | true =>
    cases timeB t with
    | false => rfl
    | true => by_cases h : t < un <;> simp [h]
def mayF (sd : Bool) (un : Int) (l : List ByteArray) (fl : Int) : Int := if sd = false then 6 else if fl < un then 8 else if l = [] then 0 else 9
theorem May_eq (i : Int) (nm da : ByteArray) (sd : Bool) (un : Int) (l : List ByteArray) (fl : Int) : rule_May i nm da sd un l fl = some (mayF sd un l fl) := by
  unfold rule_May mayF
  cases sd with
  | false => rfl
  | true =>
    by_cases h : fl < un
    · simp [h]
    · cases l with
      | nil => simp [h]
      | cons x r =>
        have : ((x :: r).length : Int) > 0 := by simp
        simp [h, this]
theorem Seal_eq (i : Int) (nm da : ByteArray) (sd : Bool) (un : Int) (l : List ByteArray) (t : Int) :
    rule_Seal i nm da sd un l t = some (if sd = true then (i, nm, da, sd, un, l, 5) else if timeB t = false then (i, nm, da, sd, un, l, 1) else (i, nm, da, true, t, l, 0)) := by
  unfold rule_Seal
  rw [timely_eq]
  cases sd with
  | true => rfl
  | false => cases timeB t <;> rfl
end Go.Cen
