/- FILE: reads, appends, tells. -/
import Derived.Test.YthdoklobbcedcadDoorFiA
set_option linter.unusedVariables false
set_option linter.unusedSimpArgs false
set_option maxRecDepth 100000
namespace Go.Cen
theorem few_all {nm da : ByteArray} {l : List ByteArray} (h : fewB nm da l = true) : (l.length ≤ 200 ∧ ∀ x ∈ l, x.size ≤ 200) ∧ da.size ≤ 2000 ∧ nm.size ≤ 200 := by
  refine ⟨fewB_ok h, ?_⟩
  simp only [fewB, Bool.and_eq_true, decide_eq_true_eq] at h
  exact ⟨h.2.2.1, h.2.2.2⟩
/-! ### what is read -/
def rdF (da : ByteArray) (a b : Int) : ByteArray × Int := if a < 0 ∨ b < a ∨ (da.size : Int) < b then (e0, 1) else (sx da a b, 0)
theorem Read_eq (i : Int) (nm da : ByteArray) (sd : Bool) (un : Int) (l : List ByteArray) (a b : Int) : file_Read i nm da sd un l a b = some (rdF da a b) := by
  unfold file_Read rdF
  by_cases h1 : a < 0
  · simp [h1]
  by_cases h2 : b < a
  · simp [h1, h2]
  by_cases h3 : (da.size : Int) < b
  · simp [h1, h2, h3]
  · have g : (0 : Int) ≤ a ∧ a ≤ b ∧ b ≤ (da.size : Int) := by omega
    have h3' : ¬ b > (da.size : Int) := h3
    simp [h1, h2, h3, h3', g]
theorem sx_all (s : ByteArray) : sx s 0 (s.size : Int) = s := by
  have := sx_str (xs := byts s) 0 (s.size : Int)
  rw [strOfNums_byts] at this
  rw [this]
  have e : (s.size : Int).toNat = (byts s).length := by rw [byts_len]; omega
  rw [e, List.take_length]; simp [strOfNums_byts]
theorem sx_two (s : ByteArray) {a b c : Int} (h0 : 0 ≤ a) (h1 : a ≤ b) (h2 : b ≤ c) : sx s a b ++ sx s b c = sx s a c := by
  have e1 := sx_str (xs := byts s) a b
  have e2 := sx_str (xs := byts s) b c
  have e3 := sx_str (xs := byts s) a c
  rw [strOfNums_byts] at e1 e2 e3
  rw [e1, e2, e3, strOfNums_append]
  congr 1
  have : (byts s).take b.toNat = ((byts s).take c.toNat).take b.toNat := by rw [List.take_take, Nat.min_eq_left (by omega)]
  rw [this]
  generalize (byts s).take c.toNat = m
  have ha : a.toNat ≤ b.toNat := by omega
  clear this e1 e2 e3
  by_cases q : b.toNat ≤ m.length
  · conv => rhs; rw [← List.take_append_drop b.toNat m]
    rw [List.drop_append_of_le_length (by simp; omega)]
  · rw [List.take_of_length_le (by omega), List.drop_eq_nil_iff.2 (by omega : m.length ≤ b.toNat), List.append_nil]
theorem sx_size (s : ByteArray) {a b : Int} (h0 : 0 ≤ a) (h1 : a ≤ b) (h2 : b ≤ (s.size : Int)) : (sx s a b).size = (b - a).toNat := by
  have e1 := sx_str (xs := byts s) a b
  rw [strOfNums_byts] at e1
  rw [e1, strOfNums_size, List.length_drop, List.length_take, byts_len]; omega
theorem law08_FileReads_eq (i : Int) (nm da : ByteArray) (sd : Bool) (un : Int) (l : List ByteArray) (a b c : Int) : law08_FileReads i nm da sd un l a b c = some true := by
  unfold law08_FileReads
  simp only [works08, Option.bind_some, Bool.not_true, Bool.false_eq_true, if_false, Few7_eq, if_true]
  cases hf : fewB nm da l with
  | false => rfl
  | true =>
    obtain ⟨f1, f2, f3⟩ := few_all hf
    have hL : LIM = 1099511627776 := rfl
    simp only [Bool.not_true, Bool.false_eq_true, if_false, Read_eq, Option.bind_some]
    have r0 : rdF da 0 (da.size : Int) = (da, 0) := by
      unfold rdF; rw [if_neg (by omega), sx_all]
    simp only [r0, bne_self_eq_false, Bool.false_eq_true, if_false, seq_refl, Bool.not_true, Option.bind_some]
    by_cases h1 : a < 0 ∨ b < a ∨ (da.size : Int) < b
    · have : rdF da a b = (e0, 1) := by unfold rdF; rw [if_pos h1]
      rw [this]; rfl
    · have g1 : rdF da a b = (sx da a b, 0) := by unfold rdF; rw [if_neg h1]
      rw [g1]
      by_cases h2 : b < 0 ∨ c < b ∨ (da.size : Int) < c
      · have : rdF da b c = (e0, 1) := by unfold rdF; rw [if_pos h2]
        rw [this]; rfl
      · have g2 : rdF da b c = (sx da b c, 0) := by unfold rdF; rw [if_neg h2]
        have g3 : rdF da a c = (sx da a c, 0) := by unfold rdF; rw [if_neg (by omega)]
        have s1 := sx_size da (a := a) (b := b) (by omega) (by omega) (by omega)
        have s2 := sx_size da (a := b) (b := c) (by omega) (by omega) (by omega)
        have s3 := sx_size da (a := a) (b := c) (by omega) (by omega) (by omega)
        have hlim : (sx da a b).size + (sx da b c).size ≤ LIM := by omega
        have hw : wi64 (c - a) = c - a := wi64_id (by omega)
        have hz : ((sx da a c).size : Int) = c - a := by omega
        rw [g2, g3]
        simp only [bne_self_eq_false, Bool.false_eq_true, if_false, Option.bind_some, if_true, beq_self_eq_true, hlim, sx_two da (show 0 ≤ a by omega) (show a ≤ b by omega) (show b ≤ c by omega), seq_refl, hz, hw]
/-! ### alike -/
end Go.Cen
