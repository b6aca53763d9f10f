/- NAME: the reference's words: order, digits, what is shown. -/
import Derived.Test.YthdoklobbcedcadDoorFNameF
set_option linter.unusedVariables false
set_option linter.unusedSimpArgs false
namespace Go.Cen
def lessV : List Int → List Int → Bool ⊕ Unit
  | [], _ => .inr ()
  | _ :: _, [] => .inr ()
  | a :: x, b :: y => if a = b then lessV x y else .inl (decide (a < b))
theorem lessV_eq : ∀ x y, (match lessV x y with | .inl v => v | .inr _ => decide ((x.length : Int) < (y.length : Int))) = lessL x y
  | [], [] => rfl
  | [], _ :: _ => by simp [lessV, lessL] <;> omega
  | _ :: _, [] => by simp [lessV, lessL] <;> omega
  | a :: x, b :: y => by
    have ih := lessV_eq x y
    simp only [lessV, lessL]
    by_cases e : a = b
    · simp only [if_pos e]
      rw [← ih]
      cases lessV x y with
      | inl v => rfl
      | inr u =>
        simp only [List.length_cons]
        congr 1
        apply propext
        omega
    · simp only [if_neg e]
theorem lessV_nil : ∀ x, lessV x [] = .inr ()
  | [] => rfl
  | _ :: _ => rfl
theorem rLess_l0 (x y : List Int) (hx : x.length ≤ 1000000) : ref03_Less.l0 x y FU 0 = some (lessV x y) := by
  have := loopN (min x.length y.length) (by omega) (fun k i (_ : Unit) => ref03_Less.l0 x y k i) (fun i _ => some (lessV (x.drop i) (y.drop i))) (fun k s => by
      by_cases h : x.length ≤ y.length
      · have hd : decide (((min x.length y.length : Nat) : Int) < (x.length : Int)) = false := by simp; omega
        have hz : x.drop (min x.length y.length) = [] := List.drop_eq_nil_iff.2 (by omega)
        simp only [ref03_Less.l0, hd, hz, lessV]
        rfl
      · have hd : decide (((min x.length y.length : Nat) : Int) < (y.length : Int)) = false := by simp; omega
        have hz : y.drop (min x.length y.length) = [] := List.drop_eq_nil_iff.2 (by omega)
        simp only [ref03_Less.l0, andS, hd, hz, lessV_nil, Bool.and_false, Option.bind_some, Bool.false_eq_true, if_false])
    (fun k i hi hw s ih => by
      have hix : i < x.length := by omega
      have hiy : i < y.length := by omega
      have hd : decide ((i : Int) < (x.length : Int)) = true := by simp; omega
      have hd2 : decide ((i : Int) < (y.length : Int)) = true := by simp; omega
      have hdr : x.drop i = x[i] :: x.drop (i + 1) := List.drop_eq_getElem_cons hix
      have hdy : y.drop i = y[i] :: y.drop (i + 1) := List.drop_eq_getElem_cons hiy
      have hg : gt x (i : Int) = x[i] := gt_nat x i hix
      have hgy : gt y (i : Int) = y[i] := gt_nat y i hiy
      have ih' := ih ()
      simp only [ref03_Less.l0, hd, hd2, if_true, Option.bind_some, hg, hgy, hw]
      rw [if_pos (by omega), if_pos (by omega), hdr, hdy]
      simp only [lessV]
      by_cases e : x[i] = y[i]
      · have : (x[i] != y[i]) = false := by simp [e]
        rw [if_pos e]
        simp only [this, Bool.false_eq_true, if_false]
        exact ih'
      · have : (x[i] != y[i]) = true := by simp [e]
        rw [if_neg e]
        simp only [this, if_true]
        rw [if_pos (by omega), if_pos (by omega)]) ()
  simpa using this
theorem ref03_Less_str {a b : List Int} (ha : isB a) (hb : isB b) (hna : a.length ≤ 100000) (hnb : b.length ≤ 100000) : ref03_Less (strOfNums a) (strOfNums b) = some (lessL (runesL a) (runesL b)) := by
  have h1 := cnt_le a ha
  unfold ref03_Less
  rw [ref03_Runes_str ha (by omega), ref03_Runes_str hb (by omega)]
  simp only [Option.bind_some]
  have : (runesL a).length = cnt a := rfl
  rw [rLess_l0 _ _ (by omega), ← lessV_eq]
  simp only [Option.bind_some]
  cases lessV (runesL a) (runesL b) <;> rfl
/-! ### the reference's showing -/
end Go.Cen
