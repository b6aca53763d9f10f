/- A table of numbers that a row leaves open: it is some list, and reads as that. No program in sight. -/
import Derived.Test.YtjbofffabkimeaaCenOwn
import GoSem.Claims
set_option linter.unusedVariables false
set_option linter.unusedSimpArgs false
namespace Go.Cen
variable {P : Program} {W : World}
def numV : Value → Int | .int _ n => n | _ => 0
theorem tab_open {g n : Nat} {t e : TypeId} {k : IntKind} (hs : W.ShapedOpen P) (hg : Nat.blt g P.globals.size = true) (h0 : (((begin P (fun _ _ => 0) default).world.heap[g]?).bind Obj.row?).map (fun x => (x.1.size, x.2)) = some (n, t)) (hb : P.buildable t = true)
    (hts : (P.cellTypes P.depth t).map (fun ts => ts.all (· == e)) = some true) (he : P.underlying e = some (.int k)) (hn : Nat.ble n maxLen = true) : ∃ tab : List Int, tab.length = n ∧ RdS (heapOf W) (cI k) 1 (some ⟨g, 0, none⟩) n tab := by
  cases hz : ((begin P (fun _ _ => 0) default).world.heap[g]?).bind Obj.row? with
  | none => rw [hz] at h0; cases h0
  | some x =>
    obtain ⟨zero, t'⟩ := x
    rw [hz] at h0
    simp only [Option.map_some, Option.some.injEq, Prod.mk.injEq] at h0
    obtain ⟨h1, rfl⟩ := h0
    obtain ⟨cs, hh, hsz, hrow⟩ := hs.1 g zero t' (by simpa using hg) hz
    obtain ⟨ts, e1, _, hcell⟩ := hrow hb
    rw [e1] at hts
    simp only [Option.map_some, Option.some.injEq, List.all_eq_true, beq_iff_eq] at hts
    have hv : ∀ v ∈ cs.toList, v = Value.int k (numV v) := by
      intro v hv
      obtain ⟨i, hi⟩ := List.mem_iff_getElem?.1 hv
      obtain ⟨u, hu, hok⟩ := hcell i v (by simpa using hi)
      obtain rfl := hts u (List.mem_of_getElem? hu)
      unfold Cell.ok at hok
      rw [he] at hok
      cases v <;> simp at hok
      obtain ⟨rfl, _⟩ := hok
      rfl
    have hm : (cs.toList.map numV).map (Value.int k) = cs.toList := by
      rw [List.map_map]
      conv => rhs; rw [← List.map_id cs.toList]
      exact List.map_congr_left fun v h => (hv v h).symm
    have hl : (cs.toList.map numV).length = n := by rw [List.length_map, Array.length_toList, hsz, h1]
    refine ⟨cs.toList.map numV, hl, by omega, by simpa using Nat.le_of_ble_eq_true hn, fun _ _ => rfl, fun _ => ⟨g, 0, cs, t', (0, 0), rfl, hh, fun j u hj => ?_⟩⟩
    have hf : ∀ xs : List Int, xs.flatMap (cI k) = xs.map (Value.int k) := by
      intro xs
      induction xs with
      | nil => rfl
      | cons z r ih => rw [List.flatMap_cons, ih]; rfl
    rw [hf, hm] at hj
    rw [Nat.zero_add]
    simpa using hj
end Go.Cen
