/- FILE: reads, appends, tells. -/
import Derived.Test.YthdoklobbcedcaeDoorSFiA
set_option linter.unusedVariables false
set_option linter.unusedSimpArgs false
set_option maxRecDepth 100000
namespace Go.Cen
theorem few_all {nm da : ByteArray} {l : List ByteArray} (h : fewB nm da l = true) : (l.length ≤ 200 ∧ ∀ x ∈ l, x.size ≤ 200) ∧ da.size ≤ 2000 ∧ nm.size ≤ 200 := by
  refine ⟨fewB_ok h, ?_⟩
  simp only [fewB, Bool.and_eq_true, decide_eq_true_eq] at h
  exact ⟨h.2.2.1, h.2.2.2⟩
/-! ### what is read -/
/-! ### alike -/
theorem Equal_eq (a b : List ByteArray) (ha : a.length ≤ 100000) : slices_Equal_string a b = some (decide (a = b)) := by
  unfold slices_Equal_string
  by_cases h : a.length = b.length
  · have e : ((a.length : Int) != (b.length : Int)) = false := by simp [h]
    rw [loop_eq a b h (by omega) (fun x y => seq x y) (slices_Equal_string.l0 a b) (fun k hd => by simp only [slices_Equal_string.l0, hd]; rfl)
      (fun k i hi hd hg hg2 hw => by
        simp only [slices_Equal_string.l0, hd, if_true, hg, hg2, and_self, hw]
        cases seq (gt a (i : Int)) (gt b (i : Int)) <;> rfl)]
    have z := zip_all_eq (fun x y => seq x y) seq_iff a b h
    simp only [e, Bool.false_eq_true, if_false, Option.bind_some]
    by_cases q : a = b
    · rw [if_pos (z.2 q)]; simp [q]
    · rw [if_neg (fun h => q (z.1 h))]; simp [q]
  · have e : ((a.length : Int) != (b.length : Int)) = true := by simp; omega
    have : a ≠ b := fun q => h (by rw [q])
    simp [e, this]
def sameF (f g : Fi) : Bool := (f.id == g.id) && (seq f.nm g.nm && (seq f.da g.da && ((f.sd == g.sd) && ((f.un == g.un) && decide (f.ho = g.ho)))))
theorem fSame_eq (f g : Fi) (h : f.ho.length ≤ 100000) : file_Same f.id f.nm f.da f.sd f.un f.ho g.id g.nm g.da g.sd g.un g.ho = some (sameF f g) := by
  unfold file_Same sameF
  rw [Equal_eq _ _ h]
  cases f.id == g.id <;> cases seq f.nm g.nm <;> cases seq f.da g.da <;> cases f.sd == g.sd <;> cases f.un == g.un <;> rfl
theorem sameF_self (f : Fi) : sameF f f = true := by simp [sameF, seq_refl]
theorem app_size (s t : ByteArray) : (s ++ t).size = s.size + t.size := ByteArray.size_append
end Go.Cen
