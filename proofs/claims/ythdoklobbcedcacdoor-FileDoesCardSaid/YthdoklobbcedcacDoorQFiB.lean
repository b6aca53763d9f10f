/- FILE: reads, appends, tells. -/
import Derived.Test.YthdoklobbcedcacDoorQFiA
set_option linter.unusedVariables false
set_option linter.unusedSimpArgs false
set_option maxRecDepth 100000
namespace Go.Cen
theorem few_all {nm da : ByteArray} {l : List ByteArray} (h : fewB nm da l = true) : (l.length ≤ 200 ∧ ∀ x ∈ l, x.size ≤ 200) ∧ da.size ≤ 2000 ∧ nm.size ≤ 200 := by
  refine ⟨fewB_ok h, ?_⟩
  simp only [fewB, Bool.and_eq_true, decide_eq_true_eq] at h
  exact ⟨h.2.2.1, h.2.2.2⟩
/-! ### what is read -/
/-! ### alike -/
def sameF (f g : Fi) : Bool := (f.id == g.id) && (seq f.nm g.nm && (seq f.da g.da && ((f.sd == g.sd) && ((f.un == g.un) && decide (f.ho = g.ho)))))
theorem rSame_eq (f g : Fi) (h : f.ho.length ≤ 100000) : ref07_Same f.id f.nm f.da f.sd f.un f.ho g.id g.nm g.da g.sd g.un g.ho = some (sameF f g) := by
  unfold ref07_Same sameF
  rw [Texts_eq _ _ h]
  cases f.id == g.id <;> cases seq f.nm g.nm <;> cases seq f.da g.da <;> cases f.sd == g.sd <;> cases f.un == g.un <;> rfl
theorem sameF_self (f : Fi) : sameF f f = true := by simp [sameF, seq_refl]
end Go.Cen
