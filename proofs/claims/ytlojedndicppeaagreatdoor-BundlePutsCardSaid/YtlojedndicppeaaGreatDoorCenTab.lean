/- Tables that a row lists, as plain lists of what lies in memory. No program in sight. -/
import Derived.Test.YtlojedndicppeaaGreatDoorCenOwn
import Derived.Lib.LaidU8
set_option linter.unusedVariables false
set_option linter.unusedSimpArgs false
namespace Go.Cen
open Go.Lib (VarReads tabData cells_of_tab ints_of_struct array_elem)
variable {P : Program} {W : World} {name : String} {g : Nat} {t e : TypeId} {k : IntKind}
theorem var_block {cs : Array Value} (hg : P.globalNamed name = some g) (h : W.var? P name = some cs) : ∃ T fz, heapOf W g = some (.cells cs T fz) := by
  simp only [World.var?, hg, Option.bind_some] at h
  unfold heapOf
  split at h
  · rename_i c T fz hh
    cases h
    exact ⟨T, fz, hh⟩
  · cases h
end Go.Cen
