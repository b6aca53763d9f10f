/- FILE: reads, appends, tells. -/
import Derived.Test.YthdoklobbcedcadDoorFiA
set_option linter.unusedVariables false
set_option linter.unusedSimpArgs false
set_option maxRecDepth 100000
namespace Go.Cen
theorem few_all {nm da : ByteArray} {l : List ByteArray} (h : fewB nm da l = true) : (l.length ≤ 200 ∧ ∀ x ∈ l, x.size ≤ 200) ∧ da.size ≤ 2000 ∧ nm.size ≤ 200 := by
  refine ⟨fewB_ok h, ?_⟩
  simp only [fewB, Bool.and_eq_true, decide_eq_true_eq] at h
  exact ⟨h.2.2.1, h.2.2.2⟩
/-! ### what is read -/
/-! ### alike -/
theorem app_size (s t : ByteArray) : (s ++ t).size = s.size + t.size := ByteArray.size_append
end Go.Cen
