/- NAME: the order of names; the laws of joining. -/
import Derived.Test.YthdoklobbcedcadDoorFNameB
set_option linter.unusedVariables false
set_option linter.unusedSimpArgs false
namespace Go.Cen
/-! ### runes tell their bytes -/
/-- ahead, in the order of the runes -/
def lessL : List Int → List Int → Bool
  | [], [] => false
  | [], _ :: _ => true
  | _ :: _, [] => false
  | a :: x, b :: y => if a = b then lessL x y else decide (a < b)
def lessW : List Int → List Int → Bool ⊕ Unit
  | [], _ => .inr ()
  | _ :: _, [] => .inl false
  | a :: x, b :: y => if a = b then lessW x y else .inl (decide (a < b))
theorem lessW_eq : ∀ x y, (match lessW x y with | .inl v => v | .inr _ => decide ((x.length : Int) < (y.length : Int))) = lessL x y
  | [], [] => rfl
  | [], _ :: _ => by simp [lessW, lessL] <;> omega
  | _ :: _, [] => rfl
  | a :: x, b :: y => by
    have ih := lessW_eq x y
    simp only [lessW, lessL]
    by_cases e : a = b
    · simp only [if_pos e]
      rw [← ih]
      cases lessW x y with
      | inl v => rfl
      | inr u =>
        simp only [List.length_cons]
        congr 1
        apply propext
        omega
    · simp only [if_neg e]
theorem Less_l0 (x y : List Int) (hx : x.length ≤ 1000000) : name_Less.l0 x y FU 0 = some (lessW x y) := by
  have := loopN x.length (by omega) (fun k i (_ : Unit) => name_Less.l0 x y k i) (fun i _ => some (lessW (x.drop i) (y.drop i))) (fun k s => by
      have hd : decide (((x.length : Nat) : Int) < (x.length : Int)) = false := by simp
      simp only [name_Less.l0, hd, List.drop_length, lessW]
      rfl)
    (fun k i hi hw s ih => by
      have hd : decide ((i : Int) < (x.length : Int)) = true := by simp; omega
      have hdr : x.drop i = x[i] :: x.drop (i + 1) := List.drop_eq_getElem_cons hi
      have hg : gt x (i : Int) = x[i] := gt_nat x i hi
      have ih' := ih ()
      simp only [name_Less.l0, hd, if_true, hg, hw]
      rw [if_pos (by omega), hdr]
      by_cases hy : i < y.length
      · have hdy : y.drop i = y[i] :: y.drop (i + 1) := List.drop_eq_getElem_cons hy
        have hgy : gt y (i : Int) = y[i] := gt_nat y i hy
        have d2 : decide ((i : Int) ≥ (y.length : Int)) = false := by simp; omega
        simp only [d2, Bool.false_eq_true, if_false, hgy]
        rw [if_pos (by omega), hdy]
        simp only [lessW]
        by_cases e : x[i] = y[i]
        · have : (x[i] != y[i]) = false := by simp [e]
          rw [if_pos e]
          simp only [this, Bool.false_eq_true, if_false]
          exact ih'
        · have : (x[i] != y[i]) = true := by simp [e]
          rw [if_neg e]
          simp only [this, if_true]
          rw [if_pos (by omega)]
      · have hdy : y.drop i = [] := List.drop_eq_nil_iff.2 (by omega)
        have d2 : decide ((i : Int) ≥ (y.length : Int)) = true := by simp; omega
        simp only [d2, if_true, hdy, lessW]) ()
  simpa using this
theorem name_Less_str {a b : List Int} (ha : isB a) (hb : isB b) (hna : a.length ≤ 100000) (hnb : b.length ≤ 100000) : name_Less (strOfNums a) (strOfNums b) = some (lessL (runesL a) (runesL b)) := by
  have h1 := cnt_le a ha
  unfold name_Less
  rw [name_runes_str ha (by omega), name_runes_str hb (by omega)]
  simp only [Option.bind_some]
  have : (runesL a).length = cnt a := rfl
  rw [Less_l0 _ _ (by omega), ← lessW_eq]
  simp only [Option.bind_some]
  cases lessW (runesL a) (runesL b) <;> rfl
end Go.Cen
