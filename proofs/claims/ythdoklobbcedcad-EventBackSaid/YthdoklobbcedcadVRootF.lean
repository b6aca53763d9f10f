/- ROOT: numbers read out of bytes. -/
import Derived.Test.YthdoklobbcedcadVRootB
set_option linter.unusedVariables false
set_option linter.unusedSimpArgs false
namespace Go.Cen
theorem bOr_i64 (x y : Nat) (hx : x < 2 ^ 62) (hy : y < 2 ^ 62) : bOr .i64 (x : Int) (y : Int) = ((x ||| y : Nat) : Int) := by
  have h : x ||| y < 2 ^ 62 := Nat.or_lt_two_pow hx hy
  have hb : (2 : Nat) ^ IntKind.bits .i64 = 18446744073709551616 := rfl
  have e : (BitVec.ofInt (IntKind.bits .i64) (x : Int) ||| BitVec.ofInt (IntKind.bits .i64) (y : Int)).toNat = x ||| y := by
    simp only [BitVec.ofInt_natCast, BitVec.toNat_or, BitVec.toNat_ofNat]
    rw [hb, Nat.mod_eq_of_lt (by omega), Nat.mod_eq_of_lt (by omega)]
  rw [bOr, e]
  exact wi64_id (by omega)
theorem bShl_i64 (x n : Nat) (hn : n ≤ 64) (h : x * 2 ^ n < 2 ^ 62) : bShl .i64 (x : Int) (n : Int) = ((x * 2 ^ n : Nat) : Int) := by
  have hm : min n 64 = n := by omega
  have : bShl .i64 (x : Int) (n : Int) = wi64 ((x : Int) * 2 ^ (min n 64)) := rfl
  rw [this, hm]
  have e : (x : Int) * 2 ^ n = ((x * 2 ^ n : Nat) : Int) := by push_cast; rfl
  rw [e]
  exact wi64_id (by omega)
theorem bAnd127 (n : Nat) (h : n < 256) : bAnd .u8 (n : Int) 127 = ((n % 128 : Nat) : Int) := by
  have e3 := bAnd_nat (k := .u8) rfl n 127 (by show _ < 256; omega) (by show _ < 256; omega)
  refine e3.trans ?_
  have := Nat.and_two_pow_sub_one_eq_mod n 7
  rw [show (127 : Nat) = 2 ^ 7 - 1 from rfl, this]
/-- the number that bytes begin with, canonical or not -/
def rawN : Nat → List Int → Option (Nat × List Int)
  | 0, _ => none
  | _ + 1, [] => none
  | f + 1, b :: r => if b < 128 then some (b.toNat, r) else match rawN f r with
    | some (n, r') => some (b.toNat - 128 + 128 * n, r')
    | none => none
theorem decN_raw : ∀ (f : Nat) (l : List Int) (n : Nat) (r : List Int), decN f l = some (n, r) → rawN f l = some (n, r)
  | 0, l, n, r, h => by simp [decN] at h
  | f + 1, [], n, r, h => by simp [decN] at h
  | f + 1, b :: l, n, r, h => by
    simp only [decN] at h
    simp only [rawN]
    by_cases h1 : b < 128
    · rw [if_pos h1] at h ⊢; exact h
    · rw [if_neg h1] at h ⊢
      cases h2 : decN f l with
      | none => rw [h2] at h; cases h
      | some p =>
        rw [h2] at h
        rw [decN_raw f l p.1 p.2 h2]
        simp only at h ⊢
        split at h
        · cases h
        · exact h
/-- what a reading gives -/
def getR (l : List Int) : Int × List Int × Bool := match getN l with
  | some (n, r) => ((n : Int), r, true)
  | none => (0, [], false)
theorem getN_none {l : List Int} {n : Nat} {r : List Int} (hl : isB l) (hr : rawN 8 l = some (n, r)) (h : ¬ (n ≤ 1125899906842624 ∧ numL n ++ r = l)) : getN l = none := by
  cases e : getN l with
  | none => rfl
  | some p =>
    obtain ⟨e1, e2⟩ := getN_inv hl (n := p.1) (r := p.2) e
    have e3 : decN 8 l = some (p.1, p.2) := by
      unfold getN at e
      cases h2 : decN 8 l with
      | none => rw [h2] at e; cases e
      | some q =>
        rw [h2] at e
        simp only at e
        split at e
        · cases e; rfl
        · cases e
    have e4 := decN_raw _ _ _ _ e3
    rw [hr] at e4
    simp only [Option.some.injEq, Prod.mk.injEq] at e4
    exact absurd ⟨by omega, by rw [e4.1, e4.2]; exact e1.symm⟩ h
theorem getN_noraw {l : List Int} (hr : rawN 8 l = none) : getN l = none := by
  unfold getN
  cases h2 : decN 8 l with
  | none => rfl
  | some q => rw [decN_raw 8 l q.1 q.2 h2] at hr; cases hr
end Go.Cen
