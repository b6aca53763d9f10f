/- The library's stable sort over any comparison; that the lifted ones are it. Printed by a program of ours. -/
import Derived.Test.YthdoklobbcedcaaPq
set_option linter.unusedVariables false
set_option linter.unusedSimpArgs false
namespace Go.Cen
def gs_insertionSortCmpFunc.l1 (a1 : Int) (cmp : Int → Int → Option Int) : Nat → (List Int) → Int → Option (List Int)
  | 0, _, _ => none
  | k + 1, x12, x16 => ((if (decide (x16 > a1)) = true then (if 0 ≤ x16 ∧ x16 < (x12.length : Int) then (if 0 ≤ (wi64 (x16 - 1)) ∧ (wi64 (x16 - 1)) < (x12.length : Int) then ((cmp (gt x12 x16) (gt x12 (wi64 (x16 - 1)))).bind fun y30 => some (decide (y30 < 0))) else none) else none) else some false).bind fun x17 => (if x17 = true then (if 0 ≤ (wi64 (x16 - 1)) ∧ (wi64 (x16 - 1)) < (x12.length : Int) then (if 0 ≤ x16 ∧ x16 < (x12.length : Int) then (if 0 ≤ x16 ∧ x16 < (x12.length : Int) then (if 0 ≤ (wi64 (x16 - 1)) ∧ (wi64 (x16 - 1)) < ((st x12 x16 (gt x12 (wi64 (x16 - 1)))).length : Int) then gs_insertionSortCmpFunc.l1 a1 cmp k (st (st x12 x16 (gt x12 (wi64 (x16 - 1)))) (wi64 (x16 - 1)) (gt x12 x16)) (wi64 (x16 - 1)) else none) else none) else none) else none) else some x12))
def gs_insertionSortCmpFunc.l0 (a2 : Int) (a1 : Int) (cmp : Int → Int → Option Int) : Nat → (List Int) → Int → Option (List Int)
  | 0, _, _ => none
  | k + 1, x2, x6 => (if (decide (x6 < a2)) = true then ((gs_insertionSortCmpFunc.l1 a1 cmp FU x2 x6).bind fun x8 => gs_insertionSortCmpFunc.l0 a2 a1 cmp k x8 (wi64 (x6 + 1))) else some x2)
def gs_insertionSortCmpFunc (a0 : (List Int)) (a1 : Int) (a2 : Int) (cmp : Int → Int → Option Int) : Option (List Int) := ((gs_insertionSortCmpFunc.l0 a2 a1 cmp FU a0 (wi64 (a1 + 1))).bind fun x1 => (if x1.length = a0.length then some x1 else none))
def gs_swapRangeCmpFunc.l0 (a3 : Int) (a2 : Int) (a1 : Int) : Nat → (List Int) → Int → Option (List Int)
  | 0, _, _ => none
  | k + 1, x2, x6 => (if (decide (x6 < a3)) = true then (if 0 ≤ (wi64 (a2 + x6)) ∧ (wi64 (a2 + x6)) < (x2.length : Int) then (if 0 ≤ (wi64 (a1 + x6)) ∧ (wi64 (a1 + x6)) < (x2.length : Int) then (if 0 ≤ (wi64 (a1 + x6)) ∧ (wi64 (a1 + x6)) < (x2.length : Int) then (if 0 ≤ (wi64 (a2 + x6)) ∧ (wi64 (a2 + x6)) < ((st x2 (wi64 (a1 + x6)) (gt x2 (wi64 (a2 + x6)))).length : Int) then gs_swapRangeCmpFunc.l0 a3 a2 a1 k (st (st x2 (wi64 (a1 + x6)) (gt x2 (wi64 (a2 + x6)))) (wi64 (a2 + x6)) (gt x2 (wi64 (a1 + x6)))) (wi64 (x6 + 1)) else none) else none) else none) else none) else some x2)
def gs_swapRangeCmpFunc (a0 : (List Int)) (a1 : Int) (a2 : Int) (a3 : Int) (cmp : Int → Int → Option Int) : Option (List Int) := ((gs_swapRangeCmpFunc.l0 a3 a2 a1 FU a0 0).bind fun x1 => (if x1.length = a0.length then some x1 else none))
def gs_rotateCmpFunc.l0 (a2 : Int) (cmp : Int → Int → Option Int) : Nat → (List Int) → Int → Int → Option ((List Int) × Int)
  | 0, _, _, _ => none
  | k + 1, x6, x10, x11 => (if (x10 != x11) = true then (if (decide (x10 > x11)) = true then ((gs_swapRangeCmpFunc x6 (wi64 (a2 - x10)) a2 x11 cmp).bind fun y15 => gs_rotateCmpFunc.l0 a2 cmp k y15 (wi64 (x10 - x11)) x11) else ((gs_swapRangeCmpFunc x6 (wi64 (a2 - x10)) (wi64 ((wi64 (a2 + x11)) - x10)) x10 cmp).bind fun y18 => gs_rotateCmpFunc.l0 a2 cmp k y18 x10 (wi64 (x11 - x10)))) else some (x6, x10))
def gs_rotateCmpFunc (a0 : (List Int)) (a1 : Int) (a2 : Int) (a3 : Int) (cmp : Int → Int → Option Int) : Option (List Int) := ((gs_rotateCmpFunc.l0 a2 cmp FU a0 (wi64 (a2 - a1)) (wi64 (a3 - a2))).bind fun (x1, x5) => ((gs_swapRangeCmpFunc x1 (wi64 (a2 - x5)) a2 x5 cmp).bind fun y21 => (if y21.length = a0.length then some y21 else none)))
def gs_symMergeCmpFunc.l0 (a0 : (List Int)) (a1 : Int) (cmp : Int → Int → Option Int) : Nat → Int → Int → Option Int
  | 0, _, _ => none
  | k + 1, x3, x4 => (if (decide (x3 < x4)) = true then (if 0 ≤ (wi64 (bShr .u64 (wu64 (wi64 (x3 + x4))) 1)) ∧ (wi64 (bShr .u64 (wu64 (wi64 (x3 + x4))) 1)) < (a0.length : Int) then (if 0 ≤ a1 ∧ a1 < (a0.length : Int) then ((cmp (gt a0 (wi64 (bShr .u64 (wu64 (wi64 (x3 + x4))) 1))) (gt a0 a1)).bind fun y17 => (if (decide (y17 < 0)) = true then gs_symMergeCmpFunc.l0 a0 a1 cmp k (wi64 ((wi64 (bShr .u64 (wu64 (wi64 (x3 + x4))) 1)) + 1)) x4 else gs_symMergeCmpFunc.l0 a0 a1 cmp k x3 (wi64 (bShr .u64 (wu64 (wi64 (x3 + x4))) 1)))) else none) else none) else some x3)
def gs_symMergeCmpFunc.l1 (x2 : Int) : Nat → (List Int) → Int → Option (List Int)
  | 0, _, _ => none
  | k + 1, x20, x24 => (if (decide (x24 < (wi64 (x2 - 1)))) = true then (if 0 ≤ (wi64 (x24 + 1)) ∧ (wi64 (x24 + 1)) < (x20.length : Int) then (if 0 ≤ x24 ∧ x24 < (x20.length : Int) then (if 0 ≤ x24 ∧ x24 < (x20.length : Int) then (if 0 ≤ (wi64 (x24 + 1)) ∧ (wi64 (x24 + 1)) < ((st x20 x24 (gt x20 (wi64 (x24 + 1)))).length : Int) then gs_symMergeCmpFunc.l1 x2 k (st (st x20 x24 (gt x20 (wi64 (x24 + 1)))) (wi64 (x24 + 1)) (gt x20 x24)) (wi64 (x24 + 1)) else none) else none) else none) else none) else some x20)
def gs_symMergeCmpFunc.l2 (a2 : Int) (a0 : (List Int)) (cmp : Int → Int → Option Int) : Nat → Int → Int → Option Int
  | 0, _, _ => none
  | k + 1, x49, x50 => (if (decide (x49 < x50)) = true then (if 0 ≤ a2 ∧ a2 < (a0.length : Int) then (if 0 ≤ (wi64 (bShr .u64 (wu64 (wi64 (x49 + x50))) 1)) ∧ (wi64 (bShr .u64 (wu64 (wi64 (x49 + x50))) 1)) < (a0.length : Int) then ((cmp (gt a0 a2) (gt a0 (wi64 (bShr .u64 (wu64 (wi64 (x49 + x50))) 1)))).bind fun y63 => (if (!(decide (y63 < 0))) = true then gs_symMergeCmpFunc.l2 a2 a0 cmp k (wi64 ((wi64 (bShr .u64 (wu64 (wi64 (x49 + x50))) 1)) + 1)) x50 else gs_symMergeCmpFunc.l2 a2 a0 cmp k x49 (wi64 (bShr .u64 (wu64 (wi64 (x49 + x50))) 1)))) else none) else none) else some x49)
def gs_symMergeCmpFunc.l3 (x48 : Int) : Nat → (List Int) → Int → Option (List Int)
  | 0, _, _ => none
  | k + 1, x66, x70 => (if (decide (x70 > x48)) = true then (if 0 ≤ (wi64 (x70 - 1)) ∧ (wi64 (x70 - 1)) < (x66.length : Int) then (if 0 ≤ x70 ∧ x70 < (x66.length : Int) then (if 0 ≤ x70 ∧ x70 < (x66.length : Int) then (if 0 ≤ (wi64 (x70 - 1)) ∧ (wi64 (x70 - 1)) < ((st x66 x70 (gt x66 (wi64 (x70 - 1)))).length : Int) then gs_symMergeCmpFunc.l3 x48 k (st (st x66 x70 (gt x66 (wi64 (x70 - 1)))) (wi64 (x70 - 1)) (gt x66 x70)) (wi64 (x70 - 1)) else none) else none) else none) else none) else some x66)
def gs_symMergeCmpFunc.l4 (a1 : Int) (a3 : Int) (a2 : Int) (a0 : (List Int)) (cmp : Int → Int → Option Int) : Nat → Int → Int → Option Int
  | 0, _, _ => none
  | k + 1, x97, x98 => (if (decide (x97 < x98)) = true then (if 0 ≤ (wi64 ((wi64 ((wi64 ((wi64 (bShr .u64 (wu64 (wi64 (a1 + a3))) 1)) + a2)) - 1)) - (wi64 (bShr .u64 (wu64 (wi64 (x97 + x98))) 1)))) ∧ (wi64 ((wi64 ((wi64 ((wi64 (bShr .u64 (wu64 (wi64 (a1 + a3))) 1)) + a2)) - 1)) - (wi64 (bShr .u64 (wu64 (wi64 (x97 + x98))) 1)))) < (a0.length : Int) then (if 0 ≤ (wi64 (bShr .u64 (wu64 (wi64 (x97 + x98))) 1)) ∧ (wi64 (bShr .u64 (wu64 (wi64 (x97 + x98))) 1)) < (a0.length : Int) then ((cmp (gt a0 (wi64 ((wi64 ((wi64 ((wi64 (bShr .u64 (wu64 (wi64 (a1 + a3))) 1)) + a2)) - 1)) - (wi64 (bShr .u64 (wu64 (wi64 (x97 + x98))) 1))))) (gt a0 (wi64 (bShr .u64 (wu64 (wi64 (x97 + x98))) 1)))).bind fun y111 => (if (!(decide (y111 < 0))) = true then gs_symMergeCmpFunc.l4 a1 a3 a2 a0 cmp k (wi64 ((wi64 (bShr .u64 (wu64 (wi64 (x97 + x98))) 1)) + 1)) x98 else gs_symMergeCmpFunc.l4 a1 a3 a2 a0 cmp k x97 (wi64 (bShr .u64 (wu64 (wi64 (x97 + x98))) 1)))) else none) else none) else some x97)
def gs_symMergeCmpFunc : Nat → (List Int) → Int → Int → Int → (Int → Int → Option Int) → Option (List Int)
  | 0, _, _, _, _, _ => none
  | fk + 1, a0, a1, a2, a3, cmp => (if ((wi64 (a2 - a1)) == 1) = true then ((gs_symMergeCmpFunc.l0 a0 a1 cmp FU a2 a3).bind fun x2 => ((gs_symMergeCmpFunc.l1 x2 FU a0 a1).bind fun x19 => (if x19.length = a0.length then some x19 else none))) else (if ((wi64 (a3 - a2)) == 1) = true then ((gs_symMergeCmpFunc.l2 a2 a0 cmp FU a1 a2).bind fun x48 => ((gs_symMergeCmpFunc.l3 x48 FU a0 a2).bind fun x65 => (if x65.length = a0.length then some x65 else none))) else ((if (decide (a2 > (wi64 (bShr .u64 (wu64 (wi64 (a1 + a3))) 1)))) = true then some (wi64 ((wi64 ((wi64 (bShr .u64 (wu64 (wi64 (a1 + a3))) 1)) + a2)) - a3), wi64 (bShr .u64 (wu64 (wi64 (a1 + a3))) 1)) else some (a1, a2)).bind fun (x93, x94) => ((gs_symMergeCmpFunc.l4 a1 a3 a2 a0 cmp FU x93 x94).bind fun x96 => (((if (decide (x96 < a2)) = true then some (decide (a2 < (wi64 ((wi64 ((wi64 (bShr .u64 (wu64 (wi64 (a1 + a3))) 1)) + a2)) - x96)))) else some false).bind fun x117 => (if x117 = true then ((gs_rotateCmpFunc a0 x96 a2 (wi64 ((wi64 ((wi64 (bShr .u64 (wu64 (wi64 (a1 + a3))) 1)) + a2)) - x96)) cmp).bind fun y121 => some y121) else some a0)).bind fun x113 => (((if (decide (a1 < x96)) = true then some (decide (x96 < (wi64 (bShr .u64 (wu64 (wi64 (a1 + a3))) 1)))) else some false).bind fun x127 => (if x127 = true then ((gs_symMergeCmpFunc fk x113 a1 x96 (wi64 (bShr .u64 (wu64 (wi64 (a1 + a3))) 1)) cmp).bind fun y131 => some y131) else some x113)).bind fun x123 => ((if (decide ((wi64 (bShr .u64 (wu64 (wi64 (a1 + a3))) 1)) < (wi64 ((wi64 ((wi64 (bShr .u64 (wu64 (wi64 (a1 + a3))) 1)) + a2)) - x96)))) = true then some (decide ((wi64 ((wi64 ((wi64 (bShr .u64 (wu64 (wi64 (a1 + a3))) 1)) + a2)) - x96)) < a3)) else some false).bind fun x133 => (if x133 = true then ((gs_symMergeCmpFunc fk x123 (wi64 (bShr .u64 (wu64 (wi64 (a1 + a3))) 1)) (wi64 ((wi64 ((wi64 (bShr .u64 (wu64 (wi64 (a1 + a3))) 1)) + a2)) - x96)) a3 cmp).bind fun y137 => (if y137.length = a0.length then some y137 else none)) else (if x123.length = a0.length then some x123 else none)))))))))
def gs_stableCmpFunc.l0 (a1 : Int) (cmp : Int → Int → Option Int) : Nat → (List Int) → Int → Int → Option ((List Int) × Int)
  | 0, _, _, _ => none
  | k + 1, x6, x10, x11 => (if (decide (x11 ≤ a1)) = true then ((gs_insertionSortCmpFunc x6 x10 x11 cmp).bind fun y14 => gs_stableCmpFunc.l0 a1 cmp k y14 x11 (wi64 (x11 + 20))) else some (x6, x10))
def gs_stableCmpFunc.l2 (a1 : Int) (x24 : Int) (cmp : Int → Int → Option Int) : Nat → (List Int) → Int → Int → Option ((List Int) × Int)
  | 0, _, _, _ => none
  | k + 1, x31, x35, x36 => (if (decide (x36 ≤ a1)) = true then ((gs_symMergeCmpFunc FU x31 x35 (wi64 (x35 + x24)) x36 cmp).bind fun y39 => gs_stableCmpFunc.l2 a1 x24 cmp k y39 x36 (wi64 (x36 + (wi64 (2 * x24))))) else some (x31, x35))
def gs_stableCmpFunc.l1 (a1 : Int) (cmp : Int → Int → Option Int) : Nat → (List Int) → Int → Option (List Int)
  | 0, _, _ => none
  | k + 1, x20, x24 => (if (decide (x24 < a1)) = true then ((gs_stableCmpFunc.l2 a1 x24 cmp FU x20 0 (wi64 (2 * x24))).bind fun (x26, x30) => ((if (decide ((wi64 (x30 + x24)) < a1)) = true then ((gs_symMergeCmpFunc FU x26 x30 (wi64 (x30 + x24)) a1 cmp).bind fun y47 => some y47) else some x26).bind fun x41 => gs_stableCmpFunc.l1 a1 cmp k x41 (wi64 (x24 * 2)))) else some x20)
def gs_stableCmpFunc (a0 : (List Int)) (a1 : Int) (cmp : Int → Int → Option Int) : Option (List Int) := ((gs_stableCmpFunc.l0 a1 cmp FU a0 0 20).bind fun (x1, x5) => ((gs_insertionSortCmpFunc x1 x5 a1 cmp).bind fun y17 => ((gs_stableCmpFunc.l1 a1 cmp FU y17 20).bind fun x19 => (if x19.length = a0.length then some x19 else none))))
def gs_SortStableFunc (a0 : (List Int)) (cmp : Int → Int → Option Int) : Option (List Int) := ((gs_stableCmpFunc a0 (a0.length : Int) cmp).bind fun y2 => (if y2.length = a0.length then some y2 else none))
theorem eq0_slices_insertionSortCmpFunc_l1 (a1 : Int) (v : List PoolUse) : ∀ k y0 y1, slices_insertionSortCmpFunc.l1 a1 v k y0 y1 = gs_insertionSortCmpFunc.l1 a1 (fun a b => pool_places_1 a b v) k y0 y1 := by
  intro k
  induction k with
  | zero => intros; rfl
  | succ k ih => intros; simp only [slices_insertionSortCmpFunc.l1, gs_insertionSortCmpFunc.l1, ih]
theorem eq0_slices_insertionSortCmpFunc_l0 (a2 : Int) (a1 : Int) (v : List PoolUse) : ∀ k y0 y1, slices_insertionSortCmpFunc.l0 a2 a1 v k y0 y1 = gs_insertionSortCmpFunc.l0 a2 a1 (fun a b => pool_places_1 a b v) k y0 y1 := by
  intro k
  induction k with
  | zero => intros; rfl
  | succ k ih => intros; simp only [slices_insertionSortCmpFunc.l0, gs_insertionSortCmpFunc.l0, ih, eq0_slices_insertionSortCmpFunc_l1]
theorem eq0_slices_insertionSortCmpFunc (a0 : (List Int)) (a1 : Int) (a2 : Int) (v : List PoolUse) : slices_insertionSortCmpFunc a0 a1 a2 v = gs_insertionSortCmpFunc a0 a1 a2 (fun a b => pool_places_1 a b v) := by
  simp only [slices_insertionSortCmpFunc, gs_insertionSortCmpFunc, eq0_slices_insertionSortCmpFunc_l1, eq0_slices_insertionSortCmpFunc_l0]
theorem eq0_slices_swapRangeCmpFunc_l0 (a3 : Int) (a2 : Int) (a1 : Int) : ∀ k y0 y1, slices_swapRangeCmpFunc.l0 a3 a2 a1 k y0 y1 = gs_swapRangeCmpFunc.l0 a3 a2 a1 k y0 y1 := by
  intro k
  induction k with
  | zero => intros; rfl
  | succ k ih => intros; simp only [slices_swapRangeCmpFunc.l0, gs_swapRangeCmpFunc.l0, ih, eq0_slices_insertionSortCmpFunc_l1, eq0_slices_insertionSortCmpFunc_l0, eq0_slices_insertionSortCmpFunc]
theorem eq0_slices_swapRangeCmpFunc (a0 : (List Int)) (a1 : Int) (a2 : Int) (a3 : Int) (v : List PoolUse) : slices_swapRangeCmpFunc a0 a1 a2 a3 v = gs_swapRangeCmpFunc a0 a1 a2 a3 (fun a b => pool_places_1 a b v) := by
  simp only [slices_swapRangeCmpFunc, gs_swapRangeCmpFunc, eq0_slices_insertionSortCmpFunc_l1, eq0_slices_insertionSortCmpFunc_l0, eq0_slices_insertionSortCmpFunc, eq0_slices_swapRangeCmpFunc_l0]
theorem eq0_slices_rotateCmpFunc_l0 (a2 : Int) (v : List PoolUse) : ∀ k y0 y1 y2, slices_rotateCmpFunc.l0 a2 v k y0 y1 y2 = gs_rotateCmpFunc.l0 a2 (fun a b => pool_places_1 a b v) k y0 y1 y2 := by
  intro k
  induction k with
  | zero => intros; rfl
  | succ k ih => intros; simp only [slices_rotateCmpFunc.l0, gs_rotateCmpFunc.l0, ih, eq0_slices_insertionSortCmpFunc_l1, eq0_slices_insertionSortCmpFunc_l0, eq0_slices_insertionSortCmpFunc, eq0_slices_swapRangeCmpFunc_l0, eq0_slices_swapRangeCmpFunc]
theorem eq0_slices_rotateCmpFunc (a0 : (List Int)) (a1 : Int) (a2 : Int) (a3 : Int) (v : List PoolUse) : slices_rotateCmpFunc a0 a1 a2 a3 v = gs_rotateCmpFunc a0 a1 a2 a3 (fun a b => pool_places_1 a b v) := by
  simp only [slices_rotateCmpFunc, gs_rotateCmpFunc, eq0_slices_insertionSortCmpFunc_l1, eq0_slices_insertionSortCmpFunc_l0, eq0_slices_insertionSortCmpFunc, eq0_slices_swapRangeCmpFunc_l0, eq0_slices_swapRangeCmpFunc, eq0_slices_rotateCmpFunc_l0]
theorem eq0_slices_symMergeCmpFunc_l0 (a0 : (List Int)) (a1 : Int) (v : List PoolUse) : ∀ k y0 y1, slices_symMergeCmpFunc.l0 a0 a1 v k y0 y1 = gs_symMergeCmpFunc.l0 a0 a1 (fun a b => pool_places_1 a b v) k y0 y1 := by
  intro k
  induction k with
  | zero => intros; rfl
  | succ k ih => intros; simp only [slices_symMergeCmpFunc.l0, gs_symMergeCmpFunc.l0, ih, eq0_slices_insertionSortCmpFunc_l1, eq0_slices_insertionSortCmpFunc_l0, eq0_slices_insertionSortCmpFunc, eq0_slices_swapRangeCmpFunc_l0, eq0_slices_swapRangeCmpFunc, eq0_slices_rotateCmpFunc_l0, eq0_slices_rotateCmpFunc]
theorem eq0_slices_symMergeCmpFunc_l1 (x2 : Int) : ∀ k y0 y1, slices_symMergeCmpFunc.l1 x2 k y0 y1 = gs_symMergeCmpFunc.l1 x2 k y0 y1 := by
  intro k
  induction k with
  | zero => intros; rfl
  | succ k ih => intros; simp only [slices_symMergeCmpFunc.l1, gs_symMergeCmpFunc.l1, ih, eq0_slices_insertionSortCmpFunc_l1, eq0_slices_insertionSortCmpFunc_l0, eq0_slices_insertionSortCmpFunc, eq0_slices_swapRangeCmpFunc_l0, eq0_slices_swapRangeCmpFunc, eq0_slices_rotateCmpFunc_l0, eq0_slices_rotateCmpFunc, eq0_slices_symMergeCmpFunc_l0]
theorem eq0_slices_symMergeCmpFunc_l2 (a2 : Int) (a0 : (List Int)) (v : List PoolUse) : ∀ k y0 y1, slices_symMergeCmpFunc.l2 a2 a0 v k y0 y1 = gs_symMergeCmpFunc.l2 a2 a0 (fun a b => pool_places_1 a b v) k y0 y1 := by
  intro k
  induction k with
  | zero => intros; rfl
  | succ k ih => intros; simp only [slices_symMergeCmpFunc.l2, gs_symMergeCmpFunc.l2, ih, eq0_slices_insertionSortCmpFunc_l1, eq0_slices_insertionSortCmpFunc_l0, eq0_slices_insertionSortCmpFunc, eq0_slices_swapRangeCmpFunc_l0, eq0_slices_swapRangeCmpFunc, eq0_slices_rotateCmpFunc_l0, eq0_slices_rotateCmpFunc, eq0_slices_symMergeCmpFunc_l0, eq0_slices_symMergeCmpFunc_l1]
theorem eq0_slices_symMergeCmpFunc_l3 (x48 : Int) : ∀ k y0 y1, slices_symMergeCmpFunc.l3 x48 k y0 y1 = gs_symMergeCmpFunc.l3 x48 k y0 y1 := by
  intro k
  induction k with
  | zero => intros; rfl
  | succ k ih => intros; simp only [slices_symMergeCmpFunc.l3, gs_symMergeCmpFunc.l3, ih, eq0_slices_insertionSortCmpFunc_l1, eq0_slices_insertionSortCmpFunc_l0, eq0_slices_insertionSortCmpFunc, eq0_slices_swapRangeCmpFunc_l0, eq0_slices_swapRangeCmpFunc, eq0_slices_rotateCmpFunc_l0, eq0_slices_rotateCmpFunc, eq0_slices_symMergeCmpFunc_l0, eq0_slices_symMergeCmpFunc_l1, eq0_slices_symMergeCmpFunc_l2]
theorem eq0_slices_symMergeCmpFunc_l4 (a1 : Int) (a3 : Int) (a2 : Int) (a0 : (List Int)) (v : List PoolUse) : ∀ k y0 y1, slices_symMergeCmpFunc.l4 a1 a3 a2 a0 v k y0 y1 = gs_symMergeCmpFunc.l4 a1 a3 a2 a0 (fun a b => pool_places_1 a b v) k y0 y1 := by
  intro k
  induction k with
  | zero => intros; rfl
  | succ k ih => intros; simp only [slices_symMergeCmpFunc.l4, gs_symMergeCmpFunc.l4, ih, eq0_slices_insertionSortCmpFunc_l1, eq0_slices_insertionSortCmpFunc_l0, eq0_slices_insertionSortCmpFunc, eq0_slices_swapRangeCmpFunc_l0, eq0_slices_swapRangeCmpFunc, eq0_slices_rotateCmpFunc_l0, eq0_slices_rotateCmpFunc, eq0_slices_symMergeCmpFunc_l0, eq0_slices_symMergeCmpFunc_l1, eq0_slices_symMergeCmpFunc_l2, eq0_slices_symMergeCmpFunc_l3]
theorem eq0_slices_symMergeCmpFunc (v : List PoolUse) : ∀ k y0 y1 y2 y3, slices_symMergeCmpFunc k y0 y1 y2 y3 v = gs_symMergeCmpFunc k y0 y1 y2 y3 (fun a b => pool_places_1 a b v) := by
  intro k
  induction k with
  | zero => intros; rfl
  | succ k ih => intros; simp only [slices_symMergeCmpFunc, gs_symMergeCmpFunc, ih, eq0_slices_insertionSortCmpFunc_l1, eq0_slices_insertionSortCmpFunc_l0, eq0_slices_insertionSortCmpFunc, eq0_slices_swapRangeCmpFunc_l0, eq0_slices_swapRangeCmpFunc, eq0_slices_rotateCmpFunc_l0, eq0_slices_rotateCmpFunc, eq0_slices_symMergeCmpFunc_l0, eq0_slices_symMergeCmpFunc_l1, eq0_slices_symMergeCmpFunc_l2, eq0_slices_symMergeCmpFunc_l3, eq0_slices_symMergeCmpFunc_l4]
theorem eq0_slices_stableCmpFunc_l0 (a1 : Int) (v : List PoolUse) : ∀ k y0 y1 y2, slices_stableCmpFunc.l0 a1 v k y0 y1 y2 = gs_stableCmpFunc.l0 a1 (fun a b => pool_places_1 a b v) k y0 y1 y2 := by
  intro k
  induction k with
  | zero => intros; rfl
  | succ k ih => intros; simp only [slices_stableCmpFunc.l0, gs_stableCmpFunc.l0, ih, eq0_slices_insertionSortCmpFunc_l1, eq0_slices_insertionSortCmpFunc_l0, eq0_slices_insertionSortCmpFunc, eq0_slices_swapRangeCmpFunc_l0, eq0_slices_swapRangeCmpFunc, eq0_slices_rotateCmpFunc_l0, eq0_slices_rotateCmpFunc, eq0_slices_symMergeCmpFunc_l0, eq0_slices_symMergeCmpFunc_l1, eq0_slices_symMergeCmpFunc_l2, eq0_slices_symMergeCmpFunc_l3, eq0_slices_symMergeCmpFunc_l4, eq0_slices_symMergeCmpFunc]
theorem eq0_slices_stableCmpFunc_l2 (a1 : Int) (x24 : Int) (v : List PoolUse) : ∀ k y0 y1 y2, slices_stableCmpFunc.l2 a1 x24 v k y0 y1 y2 = gs_stableCmpFunc.l2 a1 x24 (fun a b => pool_places_1 a b v) k y0 y1 y2 := by
  intro k
  induction k with
  | zero => intros; rfl
  | succ k ih => intros; simp only [slices_stableCmpFunc.l2, gs_stableCmpFunc.l2, ih, eq0_slices_insertionSortCmpFunc_l1, eq0_slices_insertionSortCmpFunc_l0, eq0_slices_insertionSortCmpFunc, eq0_slices_swapRangeCmpFunc_l0, eq0_slices_swapRangeCmpFunc, eq0_slices_rotateCmpFunc_l0, eq0_slices_rotateCmpFunc, eq0_slices_symMergeCmpFunc_l0, eq0_slices_symMergeCmpFunc_l1, eq0_slices_symMergeCmpFunc_l2, eq0_slices_symMergeCmpFunc_l3, eq0_slices_symMergeCmpFunc_l4, eq0_slices_symMergeCmpFunc, eq0_slices_stableCmpFunc_l0]
theorem eq0_slices_stableCmpFunc_l1 (a1 : Int) (v : List PoolUse) : ∀ k y0 y1, slices_stableCmpFunc.l1 a1 v k y0 y1 = gs_stableCmpFunc.l1 a1 (fun a b => pool_places_1 a b v) k y0 y1 := by
  intro k
  induction k with
  | zero => intros; rfl
  | succ k ih => intros; simp only [slices_stableCmpFunc.l1, gs_stableCmpFunc.l1, ih, eq0_slices_insertionSortCmpFunc_l1, eq0_slices_insertionSortCmpFunc_l0, eq0_slices_insertionSortCmpFunc, eq0_slices_swapRangeCmpFunc_l0, eq0_slices_swapRangeCmpFunc, eq0_slices_rotateCmpFunc_l0, eq0_slices_rotateCmpFunc, eq0_slices_symMergeCmpFunc_l0, eq0_slices_symMergeCmpFunc_l1, eq0_slices_symMergeCmpFunc_l2, eq0_slices_symMergeCmpFunc_l3, eq0_slices_symMergeCmpFunc_l4, eq0_slices_symMergeCmpFunc, eq0_slices_stableCmpFunc_l0, eq0_slices_stableCmpFunc_l2]
theorem eq0_slices_stableCmpFunc (a0 : (List Int)) (a1 : Int) (v : List PoolUse) : slices_stableCmpFunc a0 a1 v = gs_stableCmpFunc a0 a1 (fun a b => pool_places_1 a b v) := by
  simp only [slices_stableCmpFunc, gs_stableCmpFunc, eq0_slices_insertionSortCmpFunc_l1, eq0_slices_insertionSortCmpFunc_l0, eq0_slices_insertionSortCmpFunc, eq0_slices_swapRangeCmpFunc_l0, eq0_slices_swapRangeCmpFunc, eq0_slices_rotateCmpFunc_l0, eq0_slices_rotateCmpFunc, eq0_slices_symMergeCmpFunc_l0, eq0_slices_symMergeCmpFunc_l1, eq0_slices_symMergeCmpFunc_l2, eq0_slices_symMergeCmpFunc_l3, eq0_slices_symMergeCmpFunc_l4, eq0_slices_symMergeCmpFunc, eq0_slices_stableCmpFunc_l0, eq0_slices_stableCmpFunc_l2, eq0_slices_stableCmpFunc_l1]
theorem eq0_slices_SortStableFunc (a0 : (List Int)) (v : List PoolUse) : slices_SortStableFunc a0 v = gs_SortStableFunc a0 (fun a b => pool_places_1 a b v) := by
  simp only [slices_SortStableFunc, gs_SortStableFunc, eq0_slices_insertionSortCmpFunc_l1, eq0_slices_insertionSortCmpFunc_l0, eq0_slices_insertionSortCmpFunc, eq0_slices_swapRangeCmpFunc_l0, eq0_slices_swapRangeCmpFunc, eq0_slices_rotateCmpFunc_l0, eq0_slices_rotateCmpFunc, eq0_slices_symMergeCmpFunc_l0, eq0_slices_symMergeCmpFunc_l1, eq0_slices_symMergeCmpFunc_l2, eq0_slices_symMergeCmpFunc_l3, eq0_slices_symMergeCmpFunc_l4, eq0_slices_symMergeCmpFunc, eq0_slices_stableCmpFunc_l0, eq0_slices_stableCmpFunc_l2, eq0_slices_stableCmpFunc_l1, eq0_slices_stableCmpFunc]
theorem eq1_slices_insertionSortCmpFunc_l1 (a1 : Int) (v : List PoolUse) : ∀ k y0 y1, slices_insertionSortCmpFunc'.l1 a1 v k y0 y1 = gs_insertionSortCmpFunc.l1 a1 (fun a b => pool_places_1' a b v) k y0 y1 := by
  intro k
  induction k with
  | zero => intros; rfl
  | succ k ih => intros; simp only [slices_insertionSortCmpFunc'.l1, gs_insertionSortCmpFunc.l1, ih]
theorem eq1_slices_insertionSortCmpFunc_l0 (a2 : Int) (a1 : Int) (v : List PoolUse) : ∀ k y0 y1, slices_insertionSortCmpFunc'.l0 a2 a1 v k y0 y1 = gs_insertionSortCmpFunc.l0 a2 a1 (fun a b => pool_places_1' a b v) k y0 y1 := by
  intro k
  induction k with
  | zero => intros; rfl
  | succ k ih => intros; simp only [slices_insertionSortCmpFunc'.l0, gs_insertionSortCmpFunc.l0, ih, eq1_slices_insertionSortCmpFunc_l1]
theorem eq1_slices_insertionSortCmpFunc (a0 : (List Int)) (a1 : Int) (a2 : Int) (v : List PoolUse) : slices_insertionSortCmpFunc' a0 a1 a2 v = gs_insertionSortCmpFunc a0 a1 a2 (fun a b => pool_places_1' a b v) := by
  simp only [slices_insertionSortCmpFunc', gs_insertionSortCmpFunc, eq1_slices_insertionSortCmpFunc_l1, eq1_slices_insertionSortCmpFunc_l0]
theorem eq1_slices_swapRangeCmpFunc_l0 (a3 : Int) (a2 : Int) (a1 : Int) : ∀ k y0 y1, slices_swapRangeCmpFunc'.l0 a3 a2 a1 k y0 y1 = gs_swapRangeCmpFunc.l0 a3 a2 a1 k y0 y1 := by
  intro k
  induction k with
  | zero => intros; rfl
  | succ k ih => intros; simp only [slices_swapRangeCmpFunc'.l0, gs_swapRangeCmpFunc.l0, ih, eq1_slices_insertionSortCmpFunc_l1, eq1_slices_insertionSortCmpFunc_l0, eq1_slices_insertionSortCmpFunc]
theorem eq1_slices_swapRangeCmpFunc (a0 : (List Int)) (a1 : Int) (a2 : Int) (a3 : Int) (v : List PoolUse) : slices_swapRangeCmpFunc' a0 a1 a2 a3 v = gs_swapRangeCmpFunc a0 a1 a2 a3 (fun a b => pool_places_1' a b v) := by
  simp only [slices_swapRangeCmpFunc', gs_swapRangeCmpFunc, eq1_slices_insertionSortCmpFunc_l1, eq1_slices_insertionSortCmpFunc_l0, eq1_slices_insertionSortCmpFunc, eq1_slices_swapRangeCmpFunc_l0]
theorem eq1_slices_rotateCmpFunc_l0 (a2 : Int) (v : List PoolUse) : ∀ k y0 y1 y2, slices_rotateCmpFunc'.l0 a2 v k y0 y1 y2 = gs_rotateCmpFunc.l0 a2 (fun a b => pool_places_1' a b v) k y0 y1 y2 := by
  intro k
  induction k with
  | zero => intros; rfl
  | succ k ih => intros; simp only [slices_rotateCmpFunc'.l0, gs_rotateCmpFunc.l0, ih, eq1_slices_insertionSortCmpFunc_l1, eq1_slices_insertionSortCmpFunc_l0, eq1_slices_insertionSortCmpFunc, eq1_slices_swapRangeCmpFunc_l0, eq1_slices_swapRangeCmpFunc]
theorem eq1_slices_rotateCmpFunc (a0 : (List Int)) (a1 : Int) (a2 : Int) (a3 : Int) (v : List PoolUse) : slices_rotateCmpFunc' a0 a1 a2 a3 v = gs_rotateCmpFunc a0 a1 a2 a3 (fun a b => pool_places_1' a b v) := by
  simp only [slices_rotateCmpFunc', gs_rotateCmpFunc, eq1_slices_insertionSortCmpFunc_l1, eq1_slices_insertionSortCmpFunc_l0, eq1_slices_insertionSortCmpFunc, eq1_slices_swapRangeCmpFunc_l0, eq1_slices_swapRangeCmpFunc, eq1_slices_rotateCmpFunc_l0]
theorem eq1_slices_symMergeCmpFunc_l0 (a0 : (List Int)) (a1 : Int) (v : List PoolUse) : ∀ k y0 y1, slices_symMergeCmpFunc'.l0 a0 a1 v k y0 y1 = gs_symMergeCmpFunc.l0 a0 a1 (fun a b => pool_places_1' a b v) k y0 y1 := by
  intro k
  induction k with
  | zero => intros; rfl
  | succ k ih => intros; simp only [slices_symMergeCmpFunc'.l0, gs_symMergeCmpFunc.l0, ih, eq1_slices_insertionSortCmpFunc_l1, eq1_slices_insertionSortCmpFunc_l0, eq1_slices_insertionSortCmpFunc, eq1_slices_swapRangeCmpFunc_l0, eq1_slices_swapRangeCmpFunc, eq1_slices_rotateCmpFunc_l0, eq1_slices_rotateCmpFunc]
theorem eq1_slices_symMergeCmpFunc_l1 (x2 : Int) : ∀ k y0 y1, slices_symMergeCmpFunc'.l1 x2 k y0 y1 = gs_symMergeCmpFunc.l1 x2 k y0 y1 := by
  intro k
  induction k with
  | zero => intros; rfl
  | succ k ih => intros; simp only [slices_symMergeCmpFunc'.l1, gs_symMergeCmpFunc.l1, ih, eq1_slices_insertionSortCmpFunc_l1, eq1_slices_insertionSortCmpFunc_l0, eq1_slices_insertionSortCmpFunc, eq1_slices_swapRangeCmpFunc_l0, eq1_slices_swapRangeCmpFunc, eq1_slices_rotateCmpFunc_l0, eq1_slices_rotateCmpFunc, eq1_slices_symMergeCmpFunc_l0]
theorem eq1_slices_symMergeCmpFunc_l2 (a2 : Int) (a0 : (List Int)) (v : List PoolUse) : ∀ k y0 y1, slices_symMergeCmpFunc'.l2 a2 a0 v k y0 y1 = gs_symMergeCmpFunc.l2 a2 a0 (fun a b => pool_places_1' a b v) k y0 y1 := by
  intro k
  induction k with
  | zero => intros; rfl
  | succ k ih => intros; simp only [slices_symMergeCmpFunc'.l2, gs_symMergeCmpFunc.l2, ih, eq1_slices_insertionSortCmpFunc_l1, eq1_slices_insertionSortCmpFunc_l0, eq1_slices_insertionSortCmpFunc, eq1_slices_swapRangeCmpFunc_l0, eq1_slices_swapRangeCmpFunc, eq1_slices_rotateCmpFunc_l0, eq1_slices_rotateCmpFunc, eq1_slices_symMergeCmpFunc_l0, eq1_slices_symMergeCmpFunc_l1]
theorem eq1_slices_symMergeCmpFunc_l3 (x48 : Int) : ∀ k y0 y1, slices_symMergeCmpFunc'.l3 x48 k y0 y1 = gs_symMergeCmpFunc.l3 x48 k y0 y1 := by
  intro k
  induction k with
  | zero => intros; rfl
  | succ k ih => intros; simp only [slices_symMergeCmpFunc'.l3, gs_symMergeCmpFunc.l3, ih, eq1_slices_insertionSortCmpFunc_l1, eq1_slices_insertionSortCmpFunc_l0, eq1_slices_insertionSortCmpFunc, eq1_slices_swapRangeCmpFunc_l0, eq1_slices_swapRangeCmpFunc, eq1_slices_rotateCmpFunc_l0, eq1_slices_rotateCmpFunc, eq1_slices_symMergeCmpFunc_l0, eq1_slices_symMergeCmpFunc_l1, eq1_slices_symMergeCmpFunc_l2]
theorem eq1_slices_symMergeCmpFunc_l4 (a1 : Int) (a3 : Int) (a2 : Int) (a0 : (List Int)) (v : List PoolUse) : ∀ k y0 y1, slices_symMergeCmpFunc'.l4 a1 a3 a2 a0 v k y0 y1 = gs_symMergeCmpFunc.l4 a1 a3 a2 a0 (fun a b => pool_places_1' a b v) k y0 y1 := by
  intro k
  induction k with
  | zero => intros; rfl
  | succ k ih => intros; simp only [slices_symMergeCmpFunc'.l4, gs_symMergeCmpFunc.l4, ih, eq1_slices_insertionSortCmpFunc_l1, eq1_slices_insertionSortCmpFunc_l0, eq1_slices_insertionSortCmpFunc, eq1_slices_swapRangeCmpFunc_l0, eq1_slices_swapRangeCmpFunc, eq1_slices_rotateCmpFunc_l0, eq1_slices_rotateCmpFunc, eq1_slices_symMergeCmpFunc_l0, eq1_slices_symMergeCmpFunc_l1, eq1_slices_symMergeCmpFunc_l2, eq1_slices_symMergeCmpFunc_l3]
theorem eq1_slices_symMergeCmpFunc (v : List PoolUse) : ∀ k y0 y1 y2 y3, slices_symMergeCmpFunc' k y0 y1 y2 y3 v = gs_symMergeCmpFunc k y0 y1 y2 y3 (fun a b => pool_places_1' a b v) := by
  intro k
  induction k with
  | zero => intros; rfl
  | succ k ih => intros; simp only [slices_symMergeCmpFunc', gs_symMergeCmpFunc, ih, eq1_slices_insertionSortCmpFunc_l1, eq1_slices_insertionSortCmpFunc_l0, eq1_slices_insertionSortCmpFunc, eq1_slices_swapRangeCmpFunc_l0, eq1_slices_swapRangeCmpFunc, eq1_slices_rotateCmpFunc_l0, eq1_slices_rotateCmpFunc, eq1_slices_symMergeCmpFunc_l0, eq1_slices_symMergeCmpFunc_l1, eq1_slices_symMergeCmpFunc_l2, eq1_slices_symMergeCmpFunc_l3, eq1_slices_symMergeCmpFunc_l4]
theorem eq1_slices_stableCmpFunc_l0 (a1 : Int) (v : List PoolUse) : ∀ k y0 y1 y2, slices_stableCmpFunc'.l0 a1 v k y0 y1 y2 = gs_stableCmpFunc.l0 a1 (fun a b => pool_places_1' a b v) k y0 y1 y2 := by
  intro k
  induction k with
  | zero => intros; rfl
  | succ k ih => intros; simp only [slices_stableCmpFunc'.l0, gs_stableCmpFunc.l0, ih, eq1_slices_insertionSortCmpFunc_l1, eq1_slices_insertionSortCmpFunc_l0, eq1_slices_insertionSortCmpFunc, eq1_slices_swapRangeCmpFunc_l0, eq1_slices_swapRangeCmpFunc, eq1_slices_rotateCmpFunc_l0, eq1_slices_rotateCmpFunc, eq1_slices_symMergeCmpFunc_l0, eq1_slices_symMergeCmpFunc_l1, eq1_slices_symMergeCmpFunc_l2, eq1_slices_symMergeCmpFunc_l3, eq1_slices_symMergeCmpFunc_l4, eq1_slices_symMergeCmpFunc]
theorem eq1_slices_stableCmpFunc_l2 (a1 : Int) (x24 : Int) (v : List PoolUse) : ∀ k y0 y1 y2, slices_stableCmpFunc'.l2 a1 x24 v k y0 y1 y2 = gs_stableCmpFunc.l2 a1 x24 (fun a b => pool_places_1' a b v) k y0 y1 y2 := by
  intro k
  induction k with
  | zero => intros; rfl
  | succ k ih => intros; simp only [slices_stableCmpFunc'.l2, gs_stableCmpFunc.l2, ih, eq1_slices_insertionSortCmpFunc_l1, eq1_slices_insertionSortCmpFunc_l0, eq1_slices_insertionSortCmpFunc, eq1_slices_swapRangeCmpFunc_l0, eq1_slices_swapRangeCmpFunc, eq1_slices_rotateCmpFunc_l0, eq1_slices_rotateCmpFunc, eq1_slices_symMergeCmpFunc_l0, eq1_slices_symMergeCmpFunc_l1, eq1_slices_symMergeCmpFunc_l2, eq1_slices_symMergeCmpFunc_l3, eq1_slices_symMergeCmpFunc_l4, eq1_slices_symMergeCmpFunc, eq1_slices_stableCmpFunc_l0]
theorem eq1_slices_stableCmpFunc_l1 (a1 : Int) (v : List PoolUse) : ∀ k y0 y1, slices_stableCmpFunc'.l1 a1 v k y0 y1 = gs_stableCmpFunc.l1 a1 (fun a b => pool_places_1' a b v) k y0 y1 := by
  intro k
  induction k with
  | zero => intros; rfl
  | succ k ih => intros; simp only [slices_stableCmpFunc'.l1, gs_stableCmpFunc.l1, ih, eq1_slices_insertionSortCmpFunc_l1, eq1_slices_insertionSortCmpFunc_l0, eq1_slices_insertionSortCmpFunc, eq1_slices_swapRangeCmpFunc_l0, eq1_slices_swapRangeCmpFunc, eq1_slices_rotateCmpFunc_l0, eq1_slices_rotateCmpFunc, eq1_slices_symMergeCmpFunc_l0, eq1_slices_symMergeCmpFunc_l1, eq1_slices_symMergeCmpFunc_l2, eq1_slices_symMergeCmpFunc_l3, eq1_slices_symMergeCmpFunc_l4, eq1_slices_symMergeCmpFunc, eq1_slices_stableCmpFunc_l0, eq1_slices_stableCmpFunc_l2]
theorem eq1_slices_stableCmpFunc (a0 : (List Int)) (a1 : Int) (v : List PoolUse) : slices_stableCmpFunc' a0 a1 v = gs_stableCmpFunc a0 a1 (fun a b => pool_places_1' a b v) := by
  simp only [slices_stableCmpFunc', gs_stableCmpFunc, eq1_slices_insertionSortCmpFunc_l1, eq1_slices_insertionSortCmpFunc_l0, eq1_slices_insertionSortCmpFunc, eq1_slices_swapRangeCmpFunc_l0, eq1_slices_swapRangeCmpFunc, eq1_slices_rotateCmpFunc_l0, eq1_slices_rotateCmpFunc, eq1_slices_symMergeCmpFunc_l0, eq1_slices_symMergeCmpFunc_l1, eq1_slices_symMergeCmpFunc_l2, eq1_slices_symMergeCmpFunc_l3, eq1_slices_symMergeCmpFunc_l4, eq1_slices_symMergeCmpFunc, eq1_slices_stableCmpFunc_l0, eq1_slices_stableCmpFunc_l2, eq1_slices_stableCmpFunc_l1]
theorem eq1_slices_SortStableFunc (a0 : (List Int)) (v : List PoolUse) : slices_SortStableFunc' a0 v = gs_SortStableFunc a0 (fun a b => pool_places_1' a b v) := by
  simp only [slices_SortStableFunc', gs_SortStableFunc, eq1_slices_insertionSortCmpFunc_l1, eq1_slices_insertionSortCmpFunc_l0, eq1_slices_insertionSortCmpFunc, eq1_slices_swapRangeCmpFunc_l0, eq1_slices_swapRangeCmpFunc, eq1_slices_rotateCmpFunc_l0, eq1_slices_rotateCmpFunc, eq1_slices_symMergeCmpFunc_l0, eq1_slices_symMergeCmpFunc_l1, eq1_slices_symMergeCmpFunc_l2, eq1_slices_symMergeCmpFunc_l3, eq1_slices_symMergeCmpFunc_l4, eq1_slices_symMergeCmpFunc, eq1_slices_stableCmpFunc_l0, eq1_slices_stableCmpFunc_l2, eq1_slices_stableCmpFunc_l1, eq1_slices_stableCmpFunc]
end Go.Cen
