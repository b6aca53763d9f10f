/- RULE: holds. -/
import Derived.Test.YthdoklobbcedcacDoorQTNameI
set_option linter.unusedVariables false
set_option linter.unusedSimpArgs false
set_option maxRecDepth 100000
namespace Go.Cen
/-! ### where a text stands -/
def smallL (l : List ByteArray) : Prop := l.length ≤ 1000 ∧ ∀ x ∈ l, x.size ≤ 1000
theorem smallL.gt {l : List ByteArray} (h : smallL l) {i : Nat} (hi : i < l.length) : (gt l (i : Int)).size ≤ 1000 := by rw [gt_nat l i hi]; exact h.2 _ (List.getElem_mem hi)
/-! ### the functions -/
def mayF (sd : Bool) (un : Int) (l : List ByteArray) (fl : Int) : Int := if sd = false then 6 else if fl < un then 8 else if l = [] then 0 else 9
theorem May_eq (i : Int) (nm da : ByteArray) (sd : Bool) (un : Int) (l : List ByteArray) (fl : Int) : rule_May i nm da sd un l fl = some (mayF sd un l fl) := by
  unfold rule_May mayF
  cases sd with
  | false => rfl
  | true =>
    by_cases h : fl < un
    · simp [h]
    · cases l with
      | nil => simp [h]
      | cons x r =>
        have : ((x :: r).length : Int) > 0 := by simp
        simp [h, this]
theorem rMay_eq (i : Int) (nm da : ByteArray) (sd : Bool) (un : Int) (l : List ByteArray) (fl : Int) : ref07_May i nm da sd un l fl = some (mayF sd un l fl) := May_eq i nm da sd un l fl
def keptF (sd : Bool) (un : Int) (l : List ByteArray) (fl : Int) : Bool := sd && (decide (fl < un) || !l.isEmpty)
theorem Kept_eq (i : Int) (nm da : ByteArray) (sd : Bool) (un : Int) (l : List ByteArray) (fl : Int) : rule_Kept i nm da sd un l fl = some (keptF sd un l fl) := by
  unfold rule_Kept keptF
  rw [May_eq]
  unfold mayF
  cases sd with
  | false => rfl
  | true =>
    by_cases h : fl < un
    · simp [h]
    · cases l with
      | nil => simp [h]
      | cons x r => simp [h]
theorem works07 : law07_works = some true := by decide +kernel
end Go.Cen
