/- SHA: a digest's digits; links. -/
import Derived.Test.YthdoklobbcedcabHShaE
set_option linter.unusedVariables false
set_option linter.unusedSimpArgs false
set_option maxRecDepth 100000
namespace Go.Cen
theorem drop_gt (d : List Int) {i : Int} (h0 : 0 ≤ i) (h : i < d.length) : d.drop i.toNat = gt d i :: d.drop (i + 1).toNat := by
  obtain ⟨hl, e⟩ := gt_lt d h0 h
  rw [e, List.drop_eq_getElem_cons hl, show (i + 1).toNat = i.toNat + 1 by omega]
theorem bytes_step {d : List Int} (hd : d.length = 32) : ∀ (n : Nat) (i : Int) (k : Nat) (acc : List Int), i = 32 - n → n ≤ 32 → n < k → acc.length ≤ 32 - n → ref02_Bytes.l0 d k acc i = some (acc ++ d.drop i.toNat) := by
  intro n
  induction n with
  | zero =>
    intro i k acc hi _ hk _
    obtain ⟨k, rfl⟩ : ∃ m, k = m + 1 := ⟨k - 1, by omega⟩
    have : decide (i < 32) = false := decide_eq_false (by omega)
    have e : d.drop i.toNat = [] := List.drop_of_length_le (by omega)
    simp [ref02_Bytes.l0, this, e]
  | succ n ih =>
    intro i k acc hi hn hk hl
    obtain ⟨k, rfl⟩ : ∃ m, k = m + 1 := ⟨k - 1, by omega⟩
    have hlt : decide (i < 32) = true := decide_eq_true (by omega)
    have e1 : wi64 (i + 1) = i + 1 := wi64_id (by omega)
    have gi : 0 ≤ i ∧ i < 32 := ⟨by omega, by omega⟩
    have gl : acc.length + ([gt d i] : List Int).length ≤ LIM := by simp [LIM]; omega
    rw [drop_gt d gi.1 (by omega)]
    simp only [ref02_Bytes.l0, hlt, if_true, gi, and_self, e1, gl]
    rw [ih (i + 1) k _ (by omega) (by omega) (by omega) (by simp; omega)]
    simp
theorem ref_bytes {d : List Int} (hd : d.length = 32) : ref02_Bytes d = some (strOfNums d) := by
  unfold ref02_Bytes
  rw [bytes_step hd 32 0 FU [] (by omega) (by omega) (by simp [FU]) (by simp)]
  simp
theorem link_both {d : List Int} (hd : d.length = 32) {a : ByteArray} (ha : a.size ≤ 900000000000) : ∃ e, sha_Link d a = some e ∧ ref02_Link d a = some e ∧ sha_Of (strOfNums d ++ a) = some e ∧ e.length = 32 ∧ isB e := by
  have hs : (strOfNums d).size = 32 := by rw [strOfNums_size, hd]
  obtain ⟨e, h1, h2, h3, h4⟩ := of_both (a := strOfNums d ++ a) (by rw [ByteArray.size_append, hs]; omega)
  have g : (strOfNums d).size + a.size ≤ LIM := by rw [hs]; simp [LIM]; omega
  refine ⟨e, ?_, ?_, h1, h3, h4⟩
  · unfold sha_Link; rw [if_pos g, h1]; rfl
  · unfold ref02_Link; rw [ref_bytes hd]; simp only [Option.bind_some]; rw [if_pos g, h2]; rfl
end Go.Cen
