/- NAME: what is shown is read back. -/
import Derived.Test.YthdoklobbcedcadVNameA
set_option linter.unusedVariables false
set_option linter.unusedSimpArgs false
namespace Go.Cen
theorem take_high {l : List Int} (h : isB l) (hl : l ≠ []) (hb : ¬ bad l) (h2 : 2 ≤ (dec l).2) : ∀ x ∈ l.take (dec l).2, 128 ≤ x := by
  rcases good_cases h hl hb with ⟨a, e⟩ | ⟨a1, a2, a3, a4, a5, e⟩ | ⟨a1, a2, a3, a4, a5, a6, a7, a8, a9, e⟩ | ⟨a1, a2, a3, a4, a5, a6, a7, a8, a9, a10, a11, e⟩
  · rw [e] at h2; simp at h2
  · rw [e]; simp only; rw [take2 h a3]
    intro x hx
    simp only [List.mem_cons, List.not_mem_nil, or_false] at hx
    rcases hx with rfl | rfl <;> omega
  · rw [e]; simp only; rw [take3 h a3]
    intro x hx
    simp only [List.mem_cons, List.not_mem_nil, or_false] at hx
    rcases hx with rfl | rfl | rfl <;> omega
  · rw [e]; simp only; rw [take4 h a3]
    intro x hx
    simp only [List.mem_cons, List.not_mem_nil, or_false] at hx
    rcases hx with rfl | rfl | rfl | rfl <;> omega
/-! ### the program's own reading -/
theorem drop_str (l : List Int) (k : Nat) (hk : k ≤ l.length) : sx (strOfNums l) (k : Int) (l.length : Int) = strOfNums (l.drop k) := by
  rw [sx_str]; simp
end Go.Cen
