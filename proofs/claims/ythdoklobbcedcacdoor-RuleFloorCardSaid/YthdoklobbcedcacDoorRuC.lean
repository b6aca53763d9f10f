/- RULE: the floor; which are due. -/
import Derived.Test.YthdoklobbcedcacDoorRuA
set_option linter.unusedVariables false
set_option linter.unusedSimpArgs false
set_option maxRecDepth 100000
namespace Go.Cen
def cl40 (t : Int) : Int := if 1099511627776 < (if 0 > t then 0 else t) then 1099511627776 else if 0 > t then 0 else t
def flF (a t : Int) : Int := if cl40 t > a then cl40 t else a
theorem Floor_eq (a t : Int) : rule_Floor a t = some (flF a t) := rfl
theorem cl40_le (t : Int) : 0 ≤ cl40 t ∧ cl40 t ≤ 1099511627776 ∧ (t ≤ 1099511627776 → t ≤ cl40 t) := by unfold cl40; split <;> (try split) <;> omega
theorem flF_ge (a t : Int) : a ≤ flF a t ∧ cl40 t ≤ flF a t ∧ (flF a t = a ∨ flF a t = cl40 t) := by unfold flF; split <;> omega
theorem flF_comm (a s t : Int) : flF (flF a s) t = flF (flF a t) s := by
  have h1 := flF_ge a s; have h2 := flF_ge a t; have h3 := flF_ge (flF a s) t; have h4 := flF_ge (flF a t) s
  omega
theorem floor_l0 (l : List Int) (a : Int) (h : l.length ≤ 1000) : law07_RuleFloor.l0 l a FU a 0 = some (.inr (l.foldl flF a)) := by
  have := loopNI l.length (by omega) (fun k i (n : Int) => law07_RuleFloor.l0 l a k n i) (fun i n => some (.inr ((l.drop i).foldl flF n))) (fun i n => n ≤ a ∨ n ≤ 1099511627776)
    (fun k n hn => by
      have hd : decide (((l.length : Nat) : Int) < (l.length : Int)) = false := by simp
      simp [law07_RuleFloor.l0])
    (fun k i hi hw n hn ih => by
      have hd : decide ((i : Int) < (l.length : Int)) = true := by simp; omega
      have hg : 0 ≤ (i : Int) ∧ (i : Int) < (l.length : Int) := ⟨by omega, by omega⟩
      have hcons : l.drop i = l[i] :: l.drop (i + 1) := List.drop_eq_getElem_cons hi
      have h1 := flF_ge n l[i]; have h2 := cl40_le l[i]
      have d1 : decide (flF n l[i] < n) = false := by simp; omega
      simp only [law07_RuleFloor.l0, hd, if_true, hg, and_self, gt_nat l i hi, hw, hcons, List.foldl_cons, Floor_eq, Option.bind_some, d1, Bool.false_eq_true, if_false]
      have d2 : (if decide (flF n l[i] > 1099511627776) = true then some (decide (a ≤ 1099511627776)) else some false) = some false := by
        by_cases q : flF n l[i] > 1099511627776
        · have : ¬ a ≤ 1099511627776 := by omega
          simp [q, this]
        · simp [q]
      rw [d2]
      have d3 : (if decide (flF n l[i] < l[i]) = true then (if decide (l[i] ≤ 1099511627776) = true then some true else some false) else some false) = some false := by
        by_cases q : flF n l[i] < l[i]
        · have : ¬ l[i] ≤ 1099511627776 := by omega
          simp [q, this]
        · simp [q]
      rw [d3]
      simp only [Option.bind_some, Bool.false_eq_true, if_false]
      exact ih _ (by omega)) a (.inl (Int.le_refl _))
  rw [this]; simp
theorem floor_l1 (l : List Int) (h : l.length ≤ 1000) : ∀ (i k : Nat) (n : Int), i ≤ l.length → i < k → law07_RuleFloor.l1 l k n ((i : Int) - 1) = some ((l.take i).reverse.foldl flF n)
  | 0, k, n, h1, h2 => by
    obtain ⟨k, rfl⟩ : ∃ m, k = m + 1 := ⟨k - 1, by omega⟩
    have hd : decide ((((0 : Nat)) : Int) - 1 ≥ 0) = false := by decide
    simp [law07_RuleFloor.l1, hd]
  | i + 1, k, n, h1, h2 => by
    obtain ⟨k, rfl⟩ : ∃ m, k = m + 1 := ⟨k - 1, by omega⟩
    have e1 : ((i + 1 : Nat) : Int) - 1 = (i : Int) := by omega
    have hd : decide ((i : Int) ≥ 0) = true := by simp
    have hg : 0 ≤ (i : Int) ∧ (i : Int) < (l.length : Int) := ⟨by omega, by omega⟩
    have hw : wi64 ((i : Int) - 1) = (i : Int) - 1 := wi64_id (by omega)
    rw [e1]
    simp only [law07_RuleFloor.l1, hd, if_true, hg, and_self, gt_nat l i (by omega), Floor_eq, Option.bind_some, hw]
    rw [floor_l1 l h i k _ (by omega) (by omega), show l.take (i + 1) = l.take i ++ [l[i]] from by rw [List.take_add_one, List.getElem?_eq_getElem (by omega)]; rfl, List.reverse_append]
    rfl
theorem fold_out (l : List Int) : ∀ (a t : Int), l.foldl flF (flF a t) = flF (l.foldl flF a) t := by
  induction l with
  | nil => intro a t; rfl
  | cons x r ih => intro a t; rw [List.foldl_cons, List.foldl_cons, flF_comm, ih]
theorem fold_rev (l : List Int) : ∀ a : Int, l.reverse.foldl flF a = l.foldl flF a := by
  induction l with
  | nil => intro a; rfl
  | cons x r ih => intro a; rw [List.reverse_cons, List.foldl_append, ih]; exact (fold_out r a x).symm
theorem law07_RuleFloor_eq (a : Int) (l : List Int) : law07_RuleFloor a l = some true := by
  have hF : FU = 4611686018427387904 := rfl
  unfold law07_RuleFloor
  simp only [works07, Option.bind_some, Bool.not_true, Bool.false_eq_true, if_false]
  by_cases h : (l.length : Int) > 200
  · simp [h]
  · simp only [h, decide_false, Bool.false_eq_true, if_false, floor_l0 l a (by omega), Option.bind_some]
    rw [wi64_id (by omega), floor_l1 l (by omega) l.length FU a (Nat.le_refl _) (by omega), List.take_length]
    simp only [Option.bind_some, fold_rev, beq_self_eq_true, if_true]
/-! ### which are due -/
end Go.Cen
