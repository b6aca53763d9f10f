/- ROOT: numbers read out of bytes, the program's way. -/
import Derived.Test.YthdoklobbcedcadVRootF
set_option linter.unusedVariables false
set_option linter.unusedSimpArgs false
namespace Go.Cen
/-- a result that fits what is to be read -/
def fitsG (xs : List Int) (ρ : Option (WireGot_int ⊕ Unit)) : Prop := match getN xs with
  | some (n, r) => ρ = some (.inl ⟨(n : Int), strOfNums r, true⟩)
  | none => ρ = some (.inr ()) ∨ ∃ g : WireGot_int, ρ = some (.inl g) ∧ g.ok = false
theorem wire_l0 (xs : List Int) (hx : isB xs) : ∀ (f i k a : Nat), i + f = 8 → f < k → i ≤ xs.length → a < 128 ^ i →
    (∀ n r, rawN f (xs.drop i) = some (n, r) → rawN 8 xs = some (a + 128 ^ i * n, r)) → (rawN f (xs.drop i) = none → rawN 8 xs = none) →
    (∀ n r, decN f (xs.drop i) = some (n, r) → (i = 0 ∨ n ≠ 0) → decN 8 xs = some (a + 128 ^ i * n, r)) → (∀ n r, rawN f (xs.drop i) = some (n, r) → (decN f (xs.drop i) = none ∨ (n = 0 ∧ 0 < i)) → decN 8 xs = none) →
    fitsG xs (wire_num.l0 (strOfNums xs) k (a : Int) (i : Int)) := by
  intro f
  induction f with
  | zero =>
    intro i k a hi hk hl ha h1 h2 h3 h4
    obtain ⟨k, rfl⟩ : ∃ m, k = m + 1 := ⟨k - 1, by omega⟩
    have hr := h2 rfl
    unfold fitsG
    rw [getN_noraw hr]
    have : decide ((i : Int) < (if 8 < (xs.length : Int) then 8 else (xs.length : Int))) = false := by simp; split <;> omega
    simp only [wire_num.l0, this, strOfNums_size]
    exact .inl rfl
  | succ f ih =>
    intro i k a hi hk hl ha h1 h2 h3 h4
    obtain ⟨k, rfl⟩ : ∃ m, k = m + 1 := ⟨k - 1, by omega⟩
    by_cases hlt : i < xs.length
    · have hd : decide ((i : Int) < (if 8 < (xs.length : Int) then 8 else (xs.length : Int))) = true := by simp; split <;> omega
      have hdr : xs.drop i = xs[i] :: xs.drop (i + 1) := List.drop_eq_getElem_cons hlt
      have hg : bt (strOfNums xs) (i : Int) = xs[i] := by rw [bt_str hx, gt_nat xs i hlt]
      have hb := hx xs[i] (List.getElem_mem hlt)
      obtain ⟨b, hbb⟩ : ∃ b : Nat, xs[i] = (b : Int) := ⟨xs[i].toNat, by omega⟩
      have hp : 128 ^ i ≤ 562949953421312 := by
        have : (128 : Nat) ^ i ≤ 128 ^ 7 := Nat.pow_le_pow_right (by decide) (by omega)
        omega
      have hw : wi64 ((i : Int) + 1) = ((i + 1 : Nat) : Int) := by rw [wi64_id (by omega)]; omega
      have hw7 : wi64 (7 * (i : Int)) = ((7 * i : Nat) : Int) := by rw [wi64_id (by omega)]; omega
      have hm2 : b % 128 * 128 ^ i ≤ 127 * 562949953421312 := Nat.mul_le_mul (by omega) hp
      have hpe : (2 : Nat) ^ (7 * i) = 128 ^ i := by rw [Nat.pow_mul]
      have hm : bShl .i64 (wi64 (bAnd .u8 (b : Int) 127)) ((7 * i : Nat) : Int) = ((b % 128 * 128 ^ i : Nat) : Int) := by
        rw [bAnd127 b (by omega), wi64_id (by omega), bShl_i64 _ _ (by omega) (by rw [hpe]; omega), hpe]
      have hs : bOr .i64 (a : Int) ((b % 128 * 128 ^ i : Nat) : Int) = ((a + b % 128 * 128 ^ i : Nat) : Int) := by
        rw [bOr_i64 _ _ (by omega) (by omega)]
        rw [← hpe, Nat.or_comm, or_add (by rw [hpe]; exact ha)]
        rw [hpe]; omega
      have hgi : (0 ≤ (i : Int) ∧ (i : Int) < (xs.length : Int)) := ⟨by omega, by omega⟩
      have h70 : 0 ≤ ((7 * i : Nat) : Int) := by omega
      simp only [decide_true, if_true, and_self, Option.bind_some, wire_num.l0, strOfNums_size, hd, hgi, hg, hbb, hw7, hm, hs, hw, h70]
      by_cases hb1 : b < 128
      · have hb2 : decide ((b : Int) < 128) = true := by simp; omega
        have hraw : rawN (f + 1) (xs.drop i) = some (b, xs.drop (i + 1)) := by rw [hdr, hbb]; simp only [rawN]; rw [if_pos (by omega)]; simp
        have hdec : decN (f + 1) (xs.drop i) = some (b, xs.drop (i + 1)) := by rw [hdr, hbb]; simp only [decN]; rw [if_pos (by omega)]; simp
        obtain ⟨n, hn⟩ : ∃ n, n = a + b % 128 * 128 ^ i := ⟨_, rfl⟩
        have hn2 : n = a + 128 ^ i * b := by rw [hn, Nat.mod_eq_of_lt hb1, Nat.mul_comm]
        have hr := h1 _ _ hraw
        rw [← hn2] at hr
        have hsy : sx (strOfNums xs) ((i + 1 : Nat) : Int) (xs.length : Int) = strOfNums (xs.drop (i + 1)) := by rw [sx_str]; simp
        have hgs : (0 : Int) ≤ ((i + 1 : Nat) : Int) ∧ ((i + 1 : Nat) : Int) ≤ (xs.length : Int) := ⟨by omega, by omega⟩
        simp only [hb2, if_true, ← hn, hsy, hgs, and_self, Int.le_refl]
        unfold fitsG
        by_cases hc : n ≤ 1125899906842624
        · have hc1 : decide ((n : Int) ≤ 1125899906842624) = true := by simp; omega
          simp only [hc1, if_true]
          by_cases hi0 : i = 0
          · have hd8 := h3 _ _ hdec (.inl hi0)
            rw [← hn2] at hd8
            have : getN xs = some (n, xs.drop (i + 1)) := by unfold getN; rw [hd8]; simp only; rw [if_pos hc]
            rw [this]
            subst hi0
            rfl
          · have hz : ((i : Int) == 0) = false := by simp; omega
            simp only [hz, Bool.false_eq_true, if_false]
            by_cases hb0 : b = 0
            · have hd8 := h4 _ _ hraw (.inr ⟨hb0, by omega⟩)
              have : getN xs = none := by unfold getN; rw [hd8]
              rw [this]
              exact .inr ⟨_, rfl, by simp [hb0]⟩
            · have hd8 := h3 _ _ hdec (.inr hb0)
              rw [← hn2] at hd8
              have : getN xs = some (n, xs.drop (i + 1)) := by unfold getN; rw [hd8]; simp only; rw [if_pos hc]
              rw [this]
              have : decide ((b : Int) > 0) = true := by simp; omega
              simp only [this]
              rfl
        · have hc1 : decide ((n : Int) ≤ 1125899906842624) = false := by simp; omega
          have : getN xs = none := getN_none hx hr (fun h => hc h.1)
          rw [this]
          simp only [hc1]
          exact .inr ⟨_, rfl, rfl⟩
      · have hb2 : decide ((b : Int) < 128) = false := by simp; omega
        have hpw : 128 ^ (i + 1) = 128 ^ i * 128 := Nat.pow_succ ..
        have hbm : b % 128 = b - 128 := by omega
        have hlt2 : a + b % 128 * 128 ^ i < 128 ^ (i + 1) := by
          have : b % 128 * 128 ^ i ≤ 127 * 128 ^ i := Nat.mul_le_mul_right _ (by omega)
          omega
        have hval : ∀ n, a + 128 ^ i * (b - 128 + 128 * n) = a + b % 128 * 128 ^ i + 128 ^ (i + 1) * n := by
          intro n
          rw [hbm, hpw, Nat.mul_add, Nat.mul_comm (128 ^ i) (b - 128), Nat.mul_assoc]; omega
        have hraws : ∀ n r, rawN f (xs.drop (i + 1)) = some (n, r) → rawN (f + 1) (xs.drop i) = some (b - 128 + 128 * n, r) := by
          intro n r h
          rw [hdr, hbb]; simp only [rawN]; rw [if_neg (by omega), h]; simp
        simp only [hb2, Bool.false_eq_true, if_false]
        refine ih (i + 1) k (a + b % 128 * 128 ^ i) (by omega) (by omega) (by omega) hlt2 ?_ ?_ ?_ ?_
        · intro n r h
          rw [h1 _ _ (hraws n r h), hval]
        · intro h
          exact h2 (by rw [hdr, hbb]; simp only [rawN]; rw [if_neg (by omega), h])
        · intro n r h hn
          have hn0 : n ≠ 0 := by rcases hn with h | h <;> omega
          rw [h3 (b - 128 + 128 * n) r (by rw [hdr, hbb]; simp only [decN]; rw [if_neg (by omega), h]; simp [hn0]) (.inr (by omega)), hval]
        · intro n r h hn
          refine h4 _ _ (hraws n r h) (.inl ?_)
          rw [hdr, hbb]; simp only [decN]; rw [if_neg (by omega)]
          cases hdc : decN f (xs.drop (i + 1)) with
          | none => rfl
          | some q =>
            rcases hn with h5 | h5
            · rw [hdc] at h5; cases h5
            · have := decN_raw _ _ q.1 q.2 hdc
              rw [h] at this
              simp only [Option.some.injEq, Prod.mk.injEq] at this
              have hq : q.1 = 0 := by omega
              simp [hq]
    · have hd : decide ((i : Int) < (if 8 < (xs.length : Int) then 8 else (xs.length : Int))) = false := by simp; split <;> omega
      have hz : xs.drop i = [] := List.drop_eq_nil_iff.2 (by omega)
      have hr := h2 (by rw [hz]; rfl)
      unfold fitsG
      rw [getN_noraw hr]
      simp only [wire_num.l0, strOfNums_size, hd]
      exact .inl rfl
theorem wire_GetNum_eq (xs : List Int) (hx : isB xs) : wire_GetNum (strOfNums xs) = some ((getR xs).1, strOfNums (getR xs).2.1, (getR xs).2.2) := by
  unfold wire_GetNum wire_num getR
  have := wire_l0 xs hx 8 0 FU 0 rfl (by have : FU = 4611686018427387904 := rfl
                                         omega) (by omega) (by decide) (fun n r h => by simpa using h) (fun h => by simpa using h) (fun n r h _ => by simpa using h) (fun n r h hh => by
    rcases hh with h5 | h5
    · simpa using h5
    · omega)
  unfold fitsG at this
  cases h : getN xs with
  | some p =>
    rw [h] at this
    simp only at this
    rw [show wire_num.l0 (strOfNums xs) FU 0 0 = _ from this]
    rfl
  | none =>
    rw [h] at this
    simp only at this
    rcases this with h2 | ⟨g, h2, h3⟩
    · rw [show wire_num.l0 (strOfNums xs) FU 0 0 = _ from h2]
      rfl
    · rw [show wire_num.l0 (strOfNums xs) FU 0 0 = _ from h2]
      simp only [Option.bind_some, wire_got_int_parts, h3]
      rfl
end Go.Cen
