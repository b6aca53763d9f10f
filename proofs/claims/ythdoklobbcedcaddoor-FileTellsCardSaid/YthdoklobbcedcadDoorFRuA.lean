/- RULE: holds. -/
import Derived.Test.YthdoklobbcedcadDoorFTNameK
set_option linter.unusedVariables false
set_option linter.unusedSimpArgs false
set_option maxRecDepth 100000
namespace Go.Cen
def vN (s : ByteArray) : Bool := validN (byts s)
def ltS (s t : ByteArray) : Bool := lessL (runesL (byts s)) (runesL (byts t))
theorem vN_eq {s : ByteArray} (h : s.size ≤ 1000) : name_Valid s = some (vN s) := by
  have := name_Valid_str (l := byts s) (byts_isB s) (by rw [byts_len]; omega)
  rwa [strOfNums_byts] at this
theorem ltS_eq {s t : ByteArray} (hs : s.size ≤ 1000) (ht : t.size ≤ 1000) : name_Less s t = some (ltS s t) := by
  have := name_Less_str (a := byts s) (b := byts t) (byts_isB s) (byts_isB t) (by rw [byts_len]; omega) (by rw [byts_len]; omega)
  rwa [strOfNums_byts, strOfNums_byts] at this
theorem rltS_eq {s t : ByteArray} (hs : s.size ≤ 1000) (ht : t.size ≤ 1000) : ref03_Less s t = some (ltS s t) := by
  have := ref03_Less_str (a := byts s) (b := byts t) (byts_isB s) (byts_isB t) (by rw [byts_len]; omega) (by rw [byts_len]; omega)
  rwa [strOfNums_byts, strOfNums_byts] at this
/-! ### where a text stands -/
def smallL (l : List ByteArray) : Prop := l.length ≤ 1000 ∧ ∀ x ∈ l, x.size ≤ 1000
theorem smallL.gt {l : List ByteArray} (h : smallL l) {i : Nat} (hi : i < l.length) : (gt l (i : Int)).size ≤ 1000 := by rw [gt_nat l i hi]; exact h.2 _ (List.getElem_mem hi)
/-! ### the functions -/
def timeB (t : Int) : Bool := decide (0 ≤ t) && decide (t ≤ 1099511627776)
theorem Texts_eq (a b : List ByteArray) (ha : a.length ≤ 100000) : ref07_Texts a b = some (decide (a = b)) := by
  unfold ref07_Texts
  by_cases h : a.length = b.length
  · have e : ((a.length : Int) != (b.length : Int)) = false := by simp [h]
    rw [loop_eq a b h (by omega) (fun x y => seq x y) (ref07_Texts.l0 a b) (fun k hd => by simp only [ref07_Texts.l0, hd]; rfl)
      (fun k i hi hd hg hg2 hw => by
        simp only [ref07_Texts.l0, hd, if_true, hg, hg2, and_self, hw]
        cases seq (gt a (i : Int)) (gt b (i : Int)) <;> rfl)]
    have z := zip_all_eq (fun x y => seq x y) seq_iff a b h
    simp only [e, Bool.false_eq_true, if_false, Option.bind_some]
    by_cases q : a = b
    · rw [if_pos (z.2 q)]; simp [q]
    · rw [if_neg (fun h => q (z.1 h))]; simp [q]
  · have e : ((a.length : Int) != (b.length : Int)) = true := by simp; omega
    have : a ≠ b := fun q => h (by rw [q])
    simp [e, this]
end Go.Cen
