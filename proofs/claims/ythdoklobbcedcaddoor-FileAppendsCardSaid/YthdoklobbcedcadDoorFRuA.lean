/- RULE: holds. -/
import Derived.Test.YthdoklobbcedcadDoorFTNameI
set_option linter.unusedVariables false
set_option linter.unusedSimpArgs false
set_option maxRecDepth 100000
namespace Go.Cen
/-! ### where a text stands -/
def smallL (l : List ByteArray) : Prop := l.length ≤ 1000 ∧ ∀ x ∈ l, x.size ≤ 1000
theorem smallL.gt {l : List ByteArray} (h : smallL l) {i : Nat} (hi : i < l.length) : (gt l (i : Int)).size ≤ 1000 := by rw [gt_nat l i hi]; exact h.2 _ (List.getElem_mem hi)
/-! ### the functions -/
end Go.Cen
