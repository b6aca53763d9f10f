/- Numbers that wrap, bits, strings as lists of numbers. No program in sight. -/
import Derived.Test.YtjbofffabkimeaaCenLift3
import Derived.Lib.Strings
set_option linter.unusedVariables false
set_option linter.unusedSimpArgs false
namespace Go.Cen
theorem wu8_eq (x : Int) : wu8 x = x % 256 := by simp [wu8, IntKind.wrap, IntKind.bits, IntKind.signed]
theorem wu32_eq (x : Int) : wu32 x = x % 4294967296 := by simp [wu32, IntKind.wrap, IntKind.bits, IntKind.signed]
theorem wu64_eq (x : Int) : wu64 x = x % 18446744073709551616 := by simp [wu64, IntKind.wrap, IntKind.bits, IntKind.signed]
theorem wi64_id {x : Int} (h : -9223372036854775808 ≤ x ∧ x < 9223372036854775808) : wi64 x = x := by
  rw [wi64, IntKind.wrap_i64]; omega
theorem FU_succ (n : Nat) (h : n ≤ 4611686018427387904) : ∃ m, FU = m + n ∧ 4611686018427387904 = m + n := ⟨4611686018427387904 - n, by simp [FU]; omega, by omega⟩
theorem bShr_eq {k : IntKind} {x : Int} {n : Nat} (hn : n ≤ k.bits) : bShr k x (n : Int) = x / 2 ^ n := by
  have : min n k.bits = n := by omega
  simp only [bShr, Int.toNat_natCast, this]
  rw [Int.fdiv_eq_ediv_of_nonneg]
  exact Int.pow_nonneg (by decide)
theorem wrap_u {k : IntKind} (hk : k.signed = false) (x : Int) : k.wrap x = x % 2 ^ k.bits := by
  simp [IntKind.wrap, hk]
theorem bAnd_nat {k : IntKind} (hk : k.signed = false) (x y : Nat) (hx : x < 2 ^ k.bits) (hy : y < 2 ^ k.bits) : bAnd k (x : Int) (y : Int) = ((x &&& y : Nat) : Int) := by
  have h : x &&& y < 2 ^ k.bits := Nat.and_lt_two_pow _ hy
  have e : (BitVec.ofInt k.bits (x : Int) &&& BitVec.ofInt k.bits (y : Int)).toNat = x &&& y := by
    simp only [BitVec.ofInt_natCast, BitVec.toNat_and, BitVec.toNat_ofNat, Nat.mod_eq_of_lt hx, Nat.mod_eq_of_lt hy]
  rw [bAnd, e, wrap_u hk]
  exact_mod_cast Nat.mod_eq_of_lt h
theorem bOr_nat {k : IntKind} (hk : k.signed = false) (x y : Nat) (hx : x < 2 ^ k.bits) (hy : y < 2 ^ k.bits) : bOr k (x : Int) (y : Int) = ((x ||| y : Nat) : Int) := by
  have h : x ||| y < 2 ^ k.bits := Nat.or_lt_two_pow hx hy
  have e : (BitVec.ofInt k.bits (x : Int) ||| BitVec.ofInt k.bits (y : Int)).toNat = x ||| y := by
    simp only [BitVec.ofInt_natCast, BitVec.toNat_or, BitVec.toNat_ofNat, Nat.mod_eq_of_lt hx, Nat.mod_eq_of_lt hy]
  rw [bOr, e, wrap_u hk]
  exact_mod_cast Nat.mod_eq_of_lt h
/-! ### strings -/
def isB (xs : List Int) : Prop := ∀ x ∈ xs, 0 ≤ x ∧ x < 256
theorem byts_isB (s : ByteArray) : isB (byts s) := by
  intro x hx
  simp only [byts, List.mem_map] at hx
  obtain ⟨b, _, rfl⟩ := hx
  have := b.toNat_lt
  omega
theorem strOfNums_byts (s : ByteArray) : strOfNums (byts s) = s := by
  have : (byts s).map (fun n => UInt8.ofNat n.toNat) = s.data.toList := by
    simp only [byts, List.map_map]
    conv => rhs; rw [← List.map_id s.data.toList]
    apply List.map_congr_left
    intro a _
    simp
  unfold strOfNums
  rw [this]
theorem byts_strOfNums {xs : List Int} (h : isB xs) : byts (strOfNums xs) = xs := by
  simp only [byts, strOfNums_data, List.map_map]
  conv => rhs; rw [← List.map_id xs]
  apply List.map_congr_left
  intro a ha
  have := h a ha
  obtain ⟨n, rfl⟩ := Int.eq_ofNat_of_zero_le this.1
  have hn : n < 256 := by omega
  simp [UInt8.toNat_ofNat', Nat.mod_eq_of_lt hn]
theorem byts_inj {s t : ByteArray} (h : byts s = byts t) : s = t := by rw [← strOfNums_byts s, h, strOfNums_byts]
theorem bt_eq (s : ByteArray) (j : Int) : bt s j = gt (byts s) j := by
  simp only [bt, gt, byts, List.getD_eq_getElem?_getD, List.getElem?_map]
  cases s.data.toList[j.toNat]? <;> rfl
theorem seq_iff (s t : ByteArray) : seq s t = true ↔ s = t := by
  simp only [seq, beq_iff_eq]
  constructor
  · intro h
    apply ByteArray.ext
    apply Array.toList_inj.1
    have e (x : ByteArray) : x.toList = x.data.toList := ByteArray.toList_eq x
    rw [e, e] at h
    exact h
  · rintro rfl; rfl
theorem seq_byts (s t : ByteArray) : seq s t = decide (byts s = byts t) := by
  cases h : seq s t with
  | true => rw [(seq_iff s t).1 h]; simp
  | false =>
    symm
    simp only [decide_eq_false_iff_not]
    intro e
    rw [(seq_iff s t).2 (byts_inj e)] at h
    cases h
theorem eqA_iff (xs ys : List Int) : eqA xs ys = true ↔ xs = ys := by simp [eqA]
/-! ### lists -/
theorem gt_lt {α : Type} [Inhabited α] (xs : List α) {j : Int} (h0 : 0 ≤ j) (hj : j < xs.length) : ∃ h : j.toNat < xs.length, gt xs j = xs[j.toNat] := gt_eq h0 hj
theorem gt_all {xs : List Int} {p : Int → Prop} (h : ∀ x ∈ xs, p x) (h0 : p 0) (j : Int) : p (gt xs j) := by
  simp only [gt, List.getD_eq_getElem?_getD]
  cases e : xs[j.toNat]? with
  | none => exact h0
  | some v => exact h v (List.mem_of_getElem? e)
end Go.Cen
