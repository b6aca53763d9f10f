/- A table of numbers that a row lists, as the whole of its block. No program in sight. -/
import Derived.Test.YtlojedndicppeaaGreatDoorCenTab
import Derived.Test.YtlojedndicppeaaGreatDoorCenIto
set_option linter.unusedVariables false
set_option linter.unusedSimpArgs false
namespace Go.Cen
open Go.Lib (VarReads tabData cells_of_tab)
variable {P : Program} {W : World} {name : String} {g : Nat} {t e : TypeId} {k : IntKind}
theorem tab_block {zs : List Int} {n : Nat} (hg : P.globalNamed name = some g) (hty : (P.globals[g]?).map (·.type) = some t) (ht : P.underlying t = some (.array n e)) (he : P.underlying e = some (.int k)) (hce : P.cellsOf e = 1) (hct : P.cellsOf t = n)
    (h : VarReads P W name (tabData k zs)) : TabB (heapOf W) g k zs := by
  obtain ⟨g', t', cs, fuel, p, hg', hty', hvar, hd⟩ := h
  obtain rfl := Option.some.inj (hg.symm.trans hg')
  obtain rfl := Option.some.inj (hty.symm.trans hty')
  have hcs := cells_of_tab ht he hce hct hd
  obtain ⟨T, fz, hb⟩ := var_block hg hvar
  refine ⟨T, fz, ?_⟩
  rw [hb, ← hcs, Array.toArray_toList]
end Go.Cen
