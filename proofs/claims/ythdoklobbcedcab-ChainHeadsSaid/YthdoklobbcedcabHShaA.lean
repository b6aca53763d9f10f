/- SHA: shifts that turn, words of a block: the code's and the reference's come to the same. -/
import Derived.Test.YthdoklobbcedcabPx
import Derived.Test.YthdoklobbcedcabCenMa
set_option linter.unusedVariables false
set_option linter.unusedSimpArgs false
namespace Go.Cen
def u32 (x : Int) : Prop := 0 ≤ x ∧ x < 4294967296
def rotN (x n : Nat) : Nat := x / 2 ^ n + (x % 2 ^ n) * 2 ^ (32 - n)
theorem rotN_zero {x : Nat} : rotN x 0 = x := by simp [rotN, Nat.mod_one]
theorem rotN_lt {x n : Nat} (hx : x < 2 ^ 32) (hn : n ≤ 32) : rotN x n < 2 ^ 32 := by
  have e : 2 ^ 32 = 2 ^ n * 2 ^ (32 - n) := by rw [← Nat.pow_add]; congr 1; omega
  have h1 : x / 2 ^ n < 2 ^ (32 - n) := by
    apply Nat.div_lt_of_lt_mul; rw [← e]; exact hx
  have h2 : x % 2 ^ n < 2 ^ n := Nat.mod_lt _ (Nat.two_pow_pos n)
  have h3 : (x % 2 ^ n + 1) * 2 ^ (32 - n) ≤ 2 ^ n * 2 ^ (32 - n) := Nat.mul_le_mul_right _ h2
  rw [← e, Nat.add_mul] at h3
  unfold rotN
  omega
theorem rotN_succ {x n : Nat} (hn : n < 32) : rotN x (n + 1) = rotN x n / 2 + 2147483648 * (rotN x n % 2) := by
  have h1 : x / 2 ^ (n + 1) = x / 2 ^ n / 2 := by rw [Nat.pow_succ, Nat.div_div_eq_div_mul]
  have h2 : x % 2 ^ (n + 1) = x % 2 ^ n + 2 ^ n * (x / 2 ^ n % 2) := by rw [Nat.pow_succ, Nat.mod_mul]
  have h3 : 2 ^ (32 - n) = 2 * 2 ^ (31 - n) := by rw [← Nat.pow_succ']; congr 1; omega
  have h4 : 2 ^ n * 2 ^ (31 - n) = 2147483648 := by rw [← Nat.pow_add, show n + (31 - n) = 31 by omega]
  have h5 : (x % 2 ^ n) * 2 ^ (32 - n) = 2 * ((x % 2 ^ n) * 2 ^ (31 - n)) := by rw [h3]; ac_rfl
  unfold rotN
  rw [show 32 - (n + 1) = 31 - n by omega, h1, h2, h5, Nat.add_mul]
  have h6 : 2 ^ n * (x / 2 ^ n % 2) * 2 ^ (31 - n) = 2147483648 * (x / 2 ^ n % 2) := by rw [← h4]; ac_rfl
  rw [h6]
  omega
theorem ref_right_l0 {x n : Nat} (hx : x < 2 ^ 32) (hn : n ≤ 32) : ∀ (d j k : Nat), j + d = n → d < k → ref02_right.l0 (n : Int) k (rotN x j : Int) (j : Int) = some (rotN x n : Int) := by
  intro d
  induction d with
  | zero =>
    intro j k hj hk
    obtain ⟨k, rfl⟩ : ∃ m, k = m + 1 := ⟨k - 1, by omega⟩
    obtain rfl : j = n := by omega
    simp [ref02_right.l0]
  | succ d ih =>
    intro j k hj hk
    obtain ⟨k, rfl⟩ : ∃ m, k = m + 1 := ⟨k - 1, by omega⟩
    have hr := rotN_lt (x := x) (n := j) hx (by omega)
    have hs := rotN_succ (x := x) (n := j) (by omega)
    have hr' := rotN_lt (x := x) (n := j + 1) hx (by omega)
    have e1 : wi64 ((j : Int) + 1) = ((j + 1 : Nat) : Int) := by rw [wi64_id (by omega)]; rfl
    have e3 : ((rotN x j : Int).tdiv 2) = ((rotN x j / 2 : Nat) : Int) := by rw [Int.tdiv_eq_ediv_of_nonneg (by omega)]; rfl
    have e4 : ((rotN x j : Int).tmod 2) = ((rotN x j % 2 : Nat) : Int) := by rw [Int.tmod_eq_emod_of_nonneg (by omega)]; rfl
    have hlt : decide ((j : Int) < (n : Int)) = true := by simp; omega
    simp only [ref02_right.l0, hlt, if_true, e3, e4, wu32_eq]
    by_cases hb : rotN x j % 2 = 1
    · have : (((rotN x j % 2 : Nat) : Int) == 1) = true := by rw [hb]; rfl
      simp only [this, if_true, Option.bind_some, e1]
      have e5 : ((((rotN x j / 2 : Nat) : Int) % 4294967296 + 2147483648) % 4294967296) = (rotN x (j + 1) : Int) := by omega
      rw [e5]
      exact ih (j + 1) k (by omega) (by omega)
    · have : (((rotN x j % 2 : Nat) : Int) == 1) = false := by
        have : rotN x j % 2 = 0 := by omega
        rw [this]; rfl
      simp only [this, if_false, Option.bind_some, e1, Bool.false_eq_true]
      have e5 : (((rotN x j / 2 : Nat) : Int) % 4294967296) = (rotN x (j + 1) : Int) := by omega
      rw [e5]
      exact ih (j + 1) k (by omega) (by omega)
theorem ref_right {x n : Nat} (hx : x < 2 ^ 32) (hn : n ≤ 32) : ref02_right (x : Int) (n : Int) = some (rotN x n : Int) := by
  unfold ref02_right
  have := ref_right_l0 hx hn n 0 FU (by omega) (by simp [FU]; omega)
  rw [rotN_zero] at this
  have e : ((0 : Nat) : Int) = 0 := rfl
  rw [e] at this
  rw [this]; rfl
theorem sha_right_eq {x n : Nat} (hx : x < 2 ^ 32) (h0 : 0 < n) (hn : n < 32) : sha_right (x : Int) (n : Int) = some (rotN x n : Int) := by
  have e1 : wi64 (0 - (n : Int)) = -(n : Int) := by rw [wi64_id (by omega)]; omega
  have e2 : wu64 (-(n : Int)) = ((18446744073709551616 - n : Nat) : Int) := by rw [wu64_eq]; omega
  have e3 : bAnd .u64 ((18446744073709551616 - n : Nat) : Int) 31 = ((32 - n : Nat) : Int) := by
    have := bAnd_nat (k := .u64) rfl (18446744073709551616 - n) 31 (by show _ < 2 ^ 64; omega) (by decide)
    have h31 : (18446744073709551616 - n) &&& 31 = 32 - n := by
      have : (18446744073709551616 - n) &&& (2 ^ 5 - 1) = (18446744073709551616 - n) % 2 ^ 5 := Nat.and_two_pow_sub_one_eq_mod _ 5
      simp only [Nat.reducePow, Nat.reduceSub] at this
      rw [this]; omega
    rw [h31] at this
    exact this
  have e4 : wu64 (32 - ((32 - n : Nat) : Int)) = (n : Int) := by rw [wu64_eq]; omega
  unfold sha_right bits_RotateLeft32
  rw [e1, e2, e3, e4, if_pos (by omega), if_pos (by omega)]
  rw [bShl_u32 (by omega), bShr_eq (by show n ≤ 32; omega)]
  have hq : x / 2 ^ n < 2 ^ (32 - n) := by
    apply Nat.div_lt_of_lt_mul
    rw [← Nat.pow_add, show n + (32 - n) = 32 by omega]; exact hx
  have hm : ((x : Int) * 2 ^ (32 - n)) % 4294967296 = (((x % 2 ^ n) * 2 ^ (32 - n) : Nat) : Int) := by
    have e : (4294967296 : Nat) = 2 ^ n * 2 ^ (32 - n) := by rw [← Nat.pow_add, show n + (32 - n) = 32 by omega]
    have h2 : (x * 2 ^ (32 - n)) % 4294967296 = (x % 2 ^ n) * 2 ^ (32 - n) := by
      rw [e, Nat.mul_mod_mul_right]
    rw [← h2, Int.natCast_emod, Int.natCast_mul, Int.natCast_pow]
    rfl
  have hd : ((x : Int) / 2 ^ n) = ((x / 2 ^ n : Nat) : Int) := by rw [Int.natCast_ediv, Int.natCast_pow]; rfl
  have hml : (x % 2 ^ n) * 2 ^ (32 - n) < 2 ^ 32 := by
    have := rotN_lt (x := x) (n := n) hx (by omega)
    unfold rotN at this; omega
  rw [hm, hd, bOr_nat (k := .u32) rfl _ _ hml (by show _ < 2 ^ 32; exact Nat.lt_of_le_of_lt (Nat.div_le_self _ _) hx), or_add hq]
  simp only [Option.bind_some, rotN]
  rw [Nat.add_comm]
/-- Both turn alike. -/
theorem right_both {x : Int} (hx : u32 x) {n : Nat} (h0 : 0 < n) (hn : n < 32) : ∃ r, sha_right x (n : Int) = some r ∧ ref02_right x (n : Int) = some r ∧ u32 r := by
  obtain ⟨m, rfl⟩ := Int.eq_ofNat_of_zero_le hx.1
  have hm : m < 2 ^ 32 := by have := hx.2; omega
  have hl := rotN_lt hm (Nat.le_of_lt hn)
  exact ⟨_, sha_right_eq hm h0 hn, ref_right hm (Nat.le_of_lt hn), ⟨by omega, by omega⟩⟩
theorem ref_shift_l0 {x n : Nat} (hx : x < 2 ^ 32) : ∀ (d j k : Nat), j + d = n → n < 33 → d < k → ref02_shift.l0 (n : Int) k ((x / 2 ^ j : Nat) : Int) (j : Int) = some ((x / 2 ^ n : Nat) : Int) := by
  intro d
  induction d with
  | zero =>
    intro j k hj _ hk
    obtain ⟨k, rfl⟩ : ∃ m, k = m + 1 := ⟨k - 1, by omega⟩
    obtain rfl : j = n := by omega
    simp [ref02_shift.l0]
  | succ d ih =>
    intro j k hj hn hk
    obtain ⟨k, rfl⟩ : ∃ m, k = m + 1 := ⟨k - 1, by omega⟩
    have e1 : wi64 ((j : Int) + 1) = ((j + 1 : Nat) : Int) := by rw [wi64_id (by omega)]; rfl
    have e3 : (((x / 2 ^ j : Nat) : Int).tdiv 2) = ((x / 2 ^ j / 2 : Nat) : Int) := by
      generalize x / 2 ^ j = q
      rw [Int.tdiv_eq_ediv_of_nonneg (by omega)]; rfl
    have h1 : x / 2 ^ (j + 1) = x / 2 ^ j / 2 := by rw [Nat.pow_succ, Nat.div_div_eq_div_mul]
    have h2 : x / 2 ^ j ≤ x := Nat.div_le_self _ _
    have hlt : decide ((j : Int) < (n : Int)) = true := by simp; omega
    simp only [ref02_shift.l0, hlt, if_true, e3, wu32_eq, e1]
    have e5 : (((x / 2 ^ j / 2 : Nat) : Int) % 4294967296) = ((x / 2 ^ (j + 1) : Nat) : Int) := by
      rw [h1]; generalize x / 2 ^ j = q at h2; omega
    rw [e5]
    exact ih (j + 1) k (by omega) hn (by omega)
theorem ref_shift {x : Int} (hx : u32 x) {n : Nat} (hn : n < 32) : ref02_shift x (n : Int) = some (bShr .u32 x (n : Int)) ∧ u32 (bShr .u32 x (n : Int)) := by
  obtain ⟨m, rfl⟩ := Int.eq_ofNat_of_zero_le hx.1
  have hm : m < 2 ^ 32 := by have := hx.2; omega
  have := ref_shift_l0 (n := n) hm n 0 FU (by omega) (by omega) (by simp [FU]; omega)
  have hd : bShr .u32 (m : Int) (n : Int) = ((m / 2 ^ n : Nat) : Int) := by rw [bShr_eq (by show n ≤ 32; omega), Int.natCast_ediv, Int.natCast_pow]; rfl
  have hq : m / 2 ^ n ≤ m := Nat.div_le_self _ _
  rw [hd]
  refine ⟨?_, by generalize m / 2 ^ n = q at hq; exact ⟨by omega, by omega⟩⟩
  unfold ref02_shift
  simp only [Nat.pow_zero, Nat.div_one] at this
  have e : ((0 : Nat) : Int) = 0 := rfl
  rw [e] at this
  rw [this]; rfl
end Go.Cen
