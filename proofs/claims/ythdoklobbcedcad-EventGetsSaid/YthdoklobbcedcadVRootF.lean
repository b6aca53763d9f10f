/- ROOT: numbers read out of bytes. -/
import Derived.Test.YthdoklobbcedcadVRootB
set_option linter.unusedVariables false
set_option linter.unusedSimpArgs false
namespace Go.Cen
theorem bOr_i64 (x y : Nat) (hx : x < 2 ^ 62) (hy : y < 2 ^ 62) : bOr .i64 (x : Int) (y : Int) = ((x ||| y : Nat) : Int) := by
  have h : x ||| y < 2 ^ 62 := Nat.or_lt_two_pow hx hy
  have hb : (2 : Nat) ^ IntKind.bits .i64 = 18446744073709551616 := rfl
  have e : (BitVec.ofInt (IntKind.bits .i64) (x : Int) ||| BitVec.ofInt (IntKind.bits .i64) (y : Int)).toNat = x ||| y := by
    simp only [BitVec.ofInt_natCast, BitVec.toNat_or, BitVec.toNat_ofNat]
    rw [hb, Nat.mod_eq_of_lt (by omega), Nat.mod_eq_of_lt (by omega)]
  rw [bOr, e]
  exact wi64_id (by omega)
theorem bShl_i64 (x n : Nat) (hn : n ≤ 64) (h : x * 2 ^ n < 2 ^ 62) : bShl .i64 (x : Int) (n : Int) = ((x * 2 ^ n : Nat) : Int) := by
  have hm : min n 64 = n := by omega
  have : bShl .i64 (x : Int) (n : Int) = wi64 ((x : Int) * 2 ^ (min n 64)) := rfl
  rw [this, hm]
  have e : (x : Int) * 2 ^ n = ((x * 2 ^ n : Nat) : Int) := by push_cast; rfl
  rw [e]
  exact wi64_id (by omega)
theorem bAnd127 (n : Nat) (h : n < 256) : bAnd .u8 (n : Int) 127 = ((n % 128 : Nat) : Int) := by
  have e3 := bAnd_nat (k := .u8) rfl n 127 (by show _ < 256; omega) (by show _ < 256; omega)
  refine e3.trans ?_
  have := Nat.and_two_pow_sub_one_eq_mod n 7
  rw [show (127 : Nat) = 2 ^ 7 - 1 from rfl, this]
/-- the number that bytes begin with, canonical or not -/
def rawN : Nat → List Int → Option (Nat × List Int)
  | 0, _ => none
  | _ + 1, [] => none
  | f + 1, b :: r => if b < 128 then some (b.toNat, r) else match rawN f r with
    | some (n, r') => some (b.toNat - 128 + 128 * n, r')
    | none => none
theorem decN_raw : ∀ (f : Nat) (l : List Int) (n : Nat) (r : List Int), decN f l = some (n, r) → rawN f l = some (n, r)
  | 0, l, n, r, h => by simp [decN] at h
  | f + 1, [], n, r, h => by simp [decN] at h
  | f + 1, b :: l, n, r, h => by
    simp only [decN] at h
    simp only [rawN]
    by_cases h1 : b < 128
    · rw [if_pos h1] at h ⊢; exact h
    · rw [if_neg h1] at h ⊢
      cases h2 : decN f l with
      | none => rw [h2] at h; cases h
      | some p =>
        rw [h2] at h
        rw [decN_raw f l p.1 p.2 h2]
        simp only at h ⊢
        split at h
        · cases h
        · exact h
/-- what a reading gives -/
def getR (l : List Int) : Int × List Int × Bool := match getN l with
  | some (n, r) => ((n : Int), r, true)
  | none => (0, [], false)
theorem getN_none {l : List Int} {n : Nat} {r : List Int} (hl : isB l) (hr : rawN 8 l = some (n, r)) (h : ¬ (n ≤ 1125899906842624 ∧ numL n ++ r = l)) : getN l = none := by
  cases e : getN l with
  | none => rfl
  | some p =>
    obtain ⟨e1, e2⟩ := getN_inv hl (n := p.1) (r := p.2) e
    have e3 : decN 8 l = some (p.1, p.2) := by
      unfold getN at e
      cases h2 : decN 8 l with
      | none => rw [h2] at e; cases e
      | some q =>
        rw [h2] at e
        simp only at e
        split at e
        · cases e; rfl
        · cases e
    have e4 := decN_raw _ _ _ _ e3
    rw [hr] at e4
    simp only [Option.some.injEq, Prod.mk.injEq] at e4
    exact absurd ⟨by omega, by rw [e4.1, e4.2]; exact e1.symm⟩ h
theorem getN_some {l : List Int} {n : Nat} {r : List Int} (h : n ≤ 1125899906842624 ∧ numL n ++ r = l) : getN l = some (n, r) := by
  rw [← h.2]; exact getN_numL n r h.1
theorem getN_noraw {l : List Int} (hr : rawN 8 l = none) : getN l = none := by
  unfold getN
  cases h2 : decN 8 l with
  | none => rfl
  | some q => rw [decN_raw 8 l q.1 q.2 h2] at hr; cases hr
/-- the reference's loop -/
theorem refGet_l0 (xs : List Int) (hx : isB xs) : ∀ (f i k a : Nat), i + f = 8 → f < k → i ≤ xs.length → a < 128 ^ i →
    (∀ n r, rawN f (xs.drop i) = some (n, r) → rawN 8 xs = some (a + 128 ^ i * n, r)) → (rawN f (xs.drop i) = none → rawN 8 xs = none) →
    ref04_GetNum.l0 (strOfNums xs) k (a : Int) ((128 ^ i : Nat) : Int) (i : Int) = some (match getN xs with | some (n, r) => .inl ((n : Int), strOfNums r, true) | none => if rawN 8 xs = none then .inr () else .inl (0, (⟨#[]⟩ : ByteArray), false)) := by
  intro f
  induction f with
  | zero =>
    intro i k a hi hk hl ha h1 h2
    obtain ⟨k, rfl⟩ : ∃ m, k = m + 1 := ⟨k - 1, by omega⟩
    have hr := h2 rfl
    rw [getN_noraw hr]
    simp only [hr, if_true]
    have : decide ((i : Int) < 8) = false := by simp; omega
    simp only [ref04_GetNum.l0, this, strOfNums_size]
    split <;> simp
  | succ f ih =>
    intro i k a hi hk hl ha h1 h2
    obtain ⟨k, rfl⟩ : ∃ m, k = m + 1 := ⟨k - 1, by omega⟩
    have h8 : decide ((i : Int) < 8) = true := by simp; omega
    by_cases hlt : i < xs.length
    · have hd : decide ((i : Int) < (xs.length : Int)) = true := by simp; omega
      have hdr : xs.drop i = xs[i] :: xs.drop (i + 1) := List.drop_eq_getElem_cons hlt
      have hg : bt (strOfNums xs) (i : Int) = xs[i] := by rw [bt_str hx, gt_nat xs i hlt]
      have hb := hx xs[i] (List.getElem_mem hlt)
      obtain ⟨b, hbb⟩ : ∃ b : Nat, xs[i] = (b : Int) := ⟨xs[i].toNat, by omega⟩
      have hp : 128 ^ i ≤ 562949953421312 := by
        have : (128 : Nat) ^ i ≤ 128 ^ 7 := Nat.pow_le_pow_right (by decide) (by omega)
        omega
      have hw : wi64 ((i : Int) + 1) = ((i + 1 : Nat) : Int) := by rw [wi64_id (by omega)]; omega
      have hm : wi64 ((wi64 (b : Int)).tmod 128 * ((128 ^ i : Nat) : Int)) = ((b % 128 * 128 ^ i : Nat) : Int) := by
        have e0 : (b : Int).tmod 128 = ((b % 128 : Nat) : Int) := by rw [Int.tmod_eq_emod_of_nonneg (by omega)]; omega
        have : b % 128 * 128 ^ i ≤ 127 * 562949953421312 := Nat.mul_le_mul (by omega) hp
        rw [wi64_id (x := (b : Int)) (by omega), e0, ← Int.natCast_mul, wi64_id (by omega)]
      have hm2 : b % 128 * 128 ^ i ≤ 127 * 562949953421312 := Nat.mul_le_mul (by omega) hp
      have hs : wi64 ((a : Int) + ((b % 128 * 128 ^ i : Nat) : Int)) = ((a + b % 128 * 128 ^ i : Nat) : Int) := by rw [wi64_id (by omega)]; omega
      have hgi : (0 ≤ (i : Int) ∧ (i : Int) < (xs.length : Int)) := ⟨by omega, by omega⟩
      simp only [decide_true, if_true, and_self, Option.bind_some, ref04_GetNum.l0, strOfNums_size, hd, h8, hgi, hg, hbb, hm, hs, hw]
      by_cases hb1 : b < 128
      · have hb2 : decide ((b : Int) < 128) = true := by simp; omega
        have hr : rawN 8 xs = some (a + b % 128 * 128 ^ i, xs.drop (i + 1)) := by
          have := h1 b (xs.drop (i + 1)) (by rw [hdr, hbb]; simp only [rawN]; rw [if_pos (by omega)]; simp)
          rw [this, Nat.mod_eq_of_lt hb1, Nat.mul_comm]
        obtain ⟨n, hn⟩ : ∃ n, n = a + b % 128 * 128 ^ i := ⟨_, rfl⟩
        rw [← hn] at hr
        simp only [hb2, if_true, ← hn]
        have hsx : sx (strOfNums xs) 0 ((i + 1 : Nat) : Int) = strOfNums (xs.take (i + 1)) := by rw [sx_str]; simp
        have hsy : sx (strOfNums xs) ((i + 1 : Nat) : Int) (xs.length : Int) = strOfNums (xs.drop (i + 1)) := by rw [sx_str]; simp
        by_cases hc : n ≤ 1125899906842624
        · have hc1 : decide ((n : Int) > 1125899906842624) = false := by simp; omega
          have hcl : clampN (n : Int) = n := by have := clampN_id (a := (n : Int)) (by omega) (by omega); omega
          have hsq : seq (strOfNums (numL n)) (strOfNums (xs.take (i + 1))) = decide (numL n = xs.take (i + 1)) := seq_str (numL_isB n) (isB_take hx _)
          simp only [hc1, Bool.false_eq_true, if_false]
          rw [if_pos (by omega), if_pos (by omega)]
          simp only [ref04_Num_eq, hcl, Option.bind_some, hsx, hsy, hsq]
          by_cases he : numL n = xs.take (i + 1)
          · rw [getN_some (l := xs) (n := n) (r := xs.drop (i + 1)) ⟨hc, by rw [he, List.take_append_drop]⟩]
            simp [he]
          · rw [getN_none hx hr (fun h => he (by
              have h3 := h.2
              have h4 := congrArg List.length h3
              rw [List.length_append, List.length_drop] at h4
              have h5 : (numL n).length = i + 1 := by omega
              have h6 := congrArg (List.take (i + 1)) h3
              rw [List.take_left' h5] at h6
              exact h6))]
            simp [he, hr]
        · have hc1 : decide ((n : Int) > 1125899906842624) = true := by simp; omega
          simp only [hc1, if_true, Option.bind_some]
          rw [getN_none hx hr (fun h => hc h.1)]
          simp [hr]
      · have hb2 : decide ((b : Int) < 128) = false := by simp; omega
        have hpp : wi64 (((128 ^ i : Nat) : Int) * 128) = ((128 ^ (i + 1) : Nat) : Int) := by
          rw [Nat.pow_succ, wi64_id (by omega)]; push_cast; rfl
        have hpw : 128 ^ (i + 1) = 128 ^ i * 128 := Nat.pow_succ ..
        have hbm : b % 128 = b - 128 := by omega
        have hlt2 : a + b % 128 * 128 ^ i < 128 ^ (i + 1) := by
          have : b % 128 * 128 ^ i ≤ 127 * 128 ^ i := Nat.mul_le_mul_right _ (by omega)
          omega
        simp only [hb2, Bool.false_eq_true, if_false, hpp]
        refine ih (i + 1) k (a + b % 128 * 128 ^ i) (by omega) (by omega) (by omega) hlt2 ?_ ?_
        · intro n r h
          have := h1 (b - 128 + 128 * n) r (by rw [hdr, hbb]; simp only [rawN]; rw [if_neg (by omega), h]; simp)
          rw [this, hbm, hpw]
          have : a + 128 ^ i * (b - 128 + 128 * n) = a + (b - 128) * 128 ^ i + 128 ^ i * 128 * n := by rw [Nat.mul_add, Nat.mul_comm (128 ^ i) (b - 128), Nat.mul_assoc]; omega
          rw [this]
        · intro h
          exact h2 (by rw [hdr, hbb]; simp only [rawN]; rw [if_neg (by omega), h])
    · have hd : decide ((i : Int) < (xs.length : Int)) = false := by simp; omega
      have hz : xs.drop i = [] := List.drop_eq_nil_iff.2 (by omega)
      have hr := h2 (by rw [hz]; rfl)
      rw [getN_noraw hr]
      simp only [ref04_GetNum.l0, strOfNums_size, hd, hr, if_true]
      rfl
theorem ref04_GetNum_eq (xs : List Int) (hx : isB xs) : ref04_GetNum (strOfNums xs) = some ((getR xs).1, strOfNums (getR xs).2.1, (getR xs).2.2) := by
  unfold ref04_GetNum getR
  have := refGet_l0 xs hx 8 0 FU 0 rfl (by have : FU = 4611686018427387904 := rfl
                                           omega) (by omega) (by decide) (fun n r h => by simpa using h) (fun h => by simpa using h)
  rw [show ref04_GetNum.l0 (strOfNums xs) FU 0 1 0 = _ from this]
  cases getN xs with
  | some p => rfl
  | none =>
    simp only
    split <;> rfl
end Go.Cen
