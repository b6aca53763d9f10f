/- RULE: holds. -/
import Derived.Test.YthdoklobbcedcacDoorQTNameI
set_option linter.unusedVariables false
set_option linter.unusedSimpArgs false
set_option maxRecDepth 100000
namespace Go.Cen
/-! ### where a text stands -/
def smallL (l : List ByteArray) : Prop := l.length ≤ 1000 ∧ ∀ x ∈ l, x.size ≤ 1000
theorem smallL.gt {l : List ByteArray} (h : smallL l) {i : Nat} (hi : i < l.length) : (gt l (i : Int)).size ≤ 1000 := by rw [gt_nat l i hi]; exact h.2 _ (List.getElem_mem hi)
/-! ### the functions -/
def timeB (t : Int) : Bool := decide (0 ≤ t) && decide (t ≤ 1099511627776)
theorem timely_eq (t : Int) : rule_timely t = some (timeB t) := by
  unfold rule_timely timeB
  by_cases h : 0 ≤ t <;> simp [h]
def extF (sd : Bool) (un t : Int) : Int × Int := if sd = false then (un, 6) else if timeB t = false then (un, 1) else if t < un then (un, 7) else (t, 0)
theorem Extend_eq (i : Int) (nm da : ByteArray) (sd : Bool) (un : Int) (l : List ByteArray) (t : Int) :
    rule_Extend i nm da sd un l t = some (i, nm, da, sd, (extF sd un t).1, l, (extF sd un t).2) := by
  unfold rule_Extend extF
  rw [timely_eq]
  cases sd with
  | false => rfl
  | true =>
    cases timeB t with
    | false => rfl
    | true => by_cases h : t < un <;> simp [h]
theorem works07 : law07_works = some true := by decide +kernel
theorem Texts_eq (a b : List ByteArray) (ha : a.length ≤ 100000) : ref07_Texts a b = some (decide (a = b)) := by
  unfold ref07_Texts
  by_cases h : a.length = b.length
  · have e : ((a.length : Int) != (b.length : Int)) = false := by simp [h]
    rw [loop_eq a b h (by omega) (fun x y => seq x y) (ref07_Texts.l0 a b) (fun k hd => by simp only [ref07_Texts.l0, hd]; rfl)
      (fun k i hi hd hg hg2 hw => by
        simp only [ref07_Texts.l0, hd, if_true, hg, hg2, and_self, hw]
        cases seq (gt a (i : Int)) (gt b (i : Int)) <;> rfl)]
    have z := zip_all_eq (fun x y => seq x y) seq_iff a b h
    simp only [e, Bool.false_eq_true, if_false, Option.bind_some]
    by_cases q : a = b
    · rw [if_pos (z.2 q)]; simp [q]
    · rw [if_neg (fun h => q (z.1 h))]; simp [q]
  · have e : ((a.length : Int) != (b.length : Int)) = true := by simp; omega
    have : a ≠ b := fun q => h (by rw [q])
    simp [e, this]
theorem Same_eq (i : Int) (nm da : ByteArray) (sd : Bool) (un : Int) (l l' : List ByteArray) (h : l.length ≤ 100000) : ref07_Same i nm da sd un l i nm da sd un l' = some (decide (l = l')) := by
  unfold ref07_Same
  simp only [beq_self_eq_true, (seq_iff nm nm).2 rfl, (seq_iff da da).2 rfl, if_true, Texts_eq l l' h, Option.bind_some]
end Go.Cen
