/- WIRE: numbers as bytes, both ways. -/
import Derived.Test.YthdoklobbcedcadPx
import Derived.Test.YthdoklobbcedcadCenMa
set_option linter.unusedVariables false
set_option linter.unusedSimpArgs false
namespace Go.Cen
/-- a number's bytes -/
def numL (n : Nat) : List Int := if n < 128 then [(n : Int)] else ((n % 128 + 128 : Nat) : Int) :: numL (n / 128)
termination_by n
decreasing_by omega
theorem numL_lt {n : Nat} (h : n < 128) : numL n = [(n : Int)] := by rw [numL, if_pos h]
theorem numL_ge {n : Nat} (h : ¬ n < 128) : numL n = ((n % 128 + 128 : Nat) : Int) :: numL (n / 128) := by rw [numL, if_neg h]
theorem numL_isB (n : Nat) : isB (numL n) := by
  induction n using Nat.strongRecOn with
  | _ n ih =>
    intro x hx
    by_cases h : n < 128
    · rw [numL_lt h] at hx; simp at hx; omega
    · rw [numL_ge h] at hx
      rcases List.mem_cons.1 hx with rfl | hx
      · omega
      · exact ih (n / 128) (by omega) x hx
/-- how long a number is -/
theorem numL_len : ∀ (f n : Nat), n < 128 ^ (f + 1) → (numL n).length ≤ f + 1
  | 0, n, h => by
    rw [numL_lt (by simpa using h)]; simp
  | f + 1, n, h => by
    by_cases h1 : n < 128
    · rw [numL_lt h1]; simp
    · rw [numL_ge h1]
      have := numL_len f (n / 128) (Nat.div_lt_of_lt_mul (by rw [Nat.pow_succ] at h; omega))
      simp only [List.length_cons]; omega
/-- the number that bytes begin with -/
def decN : Nat → List Int → Option (Nat × List Int)
  | 0, _ => none
  | _ + 1, [] => none
  | f + 1, b :: r => if b < 128 then some (b.toNat, r) else match decN f r with
    | some (n, r') => if n = 0 then none else some (b.toNat - 128 + 128 * n, r')
    | none => none
theorem decN_numL : ∀ (f n : Nat) (r : List Int), n < 128 ^ (f + 1) → decN (f + 1) (numL n ++ r) = some (n, r)
  | 0, n, r, h => by
    rw [numL_lt (by simpa using h)]
    have : ((n : Int)) < 128 := by have : n < 128 := by simpa using h
                                   omega
    simp [decN, this]
  | f + 1, n, r, h => by
    by_cases h1 : n < 128
    · rw [numL_lt h1]
      have : ((n : Int)) < 128 := by omega
      simp [decN, this]
    · rw [numL_ge h1]
      have h2 : ¬ (((n % 128 + 128 : Nat) : Int) < 128) := by omega
      have h3 := decN_numL f (n / 128) r (Nat.div_lt_of_lt_mul (by rw [Nat.pow_succ] at h; omega))
      have h4 : ¬ n / 128 = 0 := by omega
      simp only [List.cons_append, decN, h2, if_false, h3, h4, Int.toNat_natCast]
      congr 2
      omega
theorem decN_inv : ∀ (f : Nat) (l : List Int) (n : Nat) (r : List Int), isB l → decN f l = some (n, r) → l = numL n ++ r ∧ n < 128 ^ f
  | 0, l, n, r, _, h => by simp [decN] at h
  | f + 1, [], n, r, _, h => by simp [decN] at h
  | f + 1, b :: l, n, r, hl, h => by
    have hb := hl b (by simp)
    have hp : 128 ^ (f + 1) = 128 * 128 ^ f := by rw [Nat.pow_succ, Nat.mul_comm]
    have hp0 : 0 < 128 ^ f := Nat.pow_pos (by decide)
    simp only [decN] at h
    by_cases h1 : b < 128
    · rw [if_pos h1] at h
      cases h
      refine ⟨?_, by omega⟩
      rw [numL_lt (by omega)]
      simp; omega
    · rw [if_neg h1] at h
      cases h2 : decN f l with
      | none => rw [h2] at h; cases h
      | some p =>
        obtain ⟨n', r'⟩ := p
        rw [h2] at h
        simp only at h
        split at h
        · cases h
        · rename_i hn
          cases h
          obtain ⟨e, hlt⟩ := decN_inv f l n' r (fun x hx => hl x (by simp [hx])) h2
          refine ⟨?_, by omega⟩
          rw [numL_ge (by omega), e]
          have e1 : (b.toNat - 128 + 128 * n') / 128 = n' := by omega
          have e2 : (((b.toNat - 128 + 128 * n') % 128 + 128 : Nat) : Int) = b := by omega
          rw [e1, e2]; rfl
/-- at most 2^50 -/
def getN (l : List Int) : Option (Nat × List Int) := match decN 8 l with
  | some (n, r) => if n ≤ 1125899906842624 then some (n, r) else none
  | none => none
theorem getN_numL (n : Nat) (r : List Int) (h : n ≤ 1125899906842624) : getN (numL n ++ r) = some (n, r) := by
  unfold getN
  rw [decN_numL 7 n r (by omega)]
  simp [h]
theorem getN_inv {l : List Int} {n : Nat} {r : List Int} (hl : isB l) (h : getN l = some (n, r)) : l = numL n ++ r ∧ n ≤ 1125899906842624 := by
  unfold getN at h
  cases h2 : decN 8 l with
  | none => rw [h2] at h; cases h
  | some p =>
    obtain ⟨n', r'⟩ := p
    rw [h2] at h
    simp only at h
    by_cases hn : n' ≤ 1125899906842624
    · rw [if_pos hn] at h
      simp only [Option.some.injEq, Prod.mk.injEq] at h
      obtain ⟨rfl, rfl⟩ := h
      exact ⟨(decN_inv 8 l _ _ hl h2).1, hn⟩
    · rw [if_neg hn] at h; cases h
def clampN (a : Int) : Nat := (if 1125899906842624 < (if 0 > a then 0 else a) then 1125899906842624 else if 0 > a then 0 else a).toNat
theorem clampN_le (a : Int) : clampN a ≤ 1125899906842624 := by unfold clampN; split <;> (try split) <;> omega
theorem clampN_id {a : Int} (h0 : 0 ≤ a) (h : a ≤ 1125899906842624) : (clampN a : Int) = a := by
  have h1 : (if 0 > a then 0 else a) = a := if_neg (by omega)
  unfold clampN
  rw [h1, if_neg (by omega)]; omega
theorem LIM_ge : 1000000000 ≤ LIM := by decide +kernel
theorem rNum_l0 : ∀ (f k n : Nat) (xs : List Int), n < 128 ^ (f + 1) → n ≤ 1125899906842624 → f < k → xs.length + f + 5 ≤ LIM → ∃ (m : Nat) (ys : List Int), ref04_Num.l0 k (n : Int) xs = some ((m : Int), xs ++ ys) ∧ m < 128 ∧ ys ++ [(m : Int)] = numL n ∧ ys.length ≤ f
  | f, 0, n, xs, h, _, hk, _ => by omega
  | 0, k + 1, n, xs, h, _, hk, hL => by
    have h1 : n < 128 := by simpa using h
    refine ⟨n, [], ?_, h1, by rw [numL_lt h1]; rfl, by simp⟩
    have : decide ((n : Int) ≥ 128) = false := by simp; omega
    simp only [ref04_Num.l0, this, List.append_nil]
    rfl
  | f + 1, k + 1, n, xs, h, h50, hk, hL => by
    by_cases h1 : n < 128
    · refine ⟨n, [], ?_, h1, by rw [numL_lt h1]; rfl, by simp⟩
      have : decide ((n : Int) ≥ 128) = false := by simp; omega
      simp only [ref04_Num.l0, this, List.append_nil]
      rfl
    · have hd : decide ((n : Int) ≥ 128) = true := by simp; omega
      have e0 : (n : Int).tmod 128 = ((n % 128 : Nat) : Int) := by rw [Int.tmod_eq_emod_of_nonneg (by omega)]; omega
      have e1 : wu8 (wi64 ((n : Int).tmod 128 + 128)) = ((n % 128 + 128 : Nat) : Int) := by
        rw [e0, wi64_id (by omega), wu8_eq]; omega
      have e2 : wi64 ((n : Int).tdiv 128) = ((n / 128 : Nat) : Int) := by
        rw [Int.tdiv_eq_ediv_of_nonneg (by omega), wi64_id (by omega)]; omega
      obtain ⟨m, ys, g1, g2, g3, g4⟩ := rNum_l0 f k (n / 128) (xs ++ [((n % 128 + 128 : Nat) : Int)]) (Nat.div_lt_of_lt_mul (by rw [Nat.pow_succ] at h; omega)) (by omega) (by omega) (by simp; omega)
      refine ⟨m, ((n % 128 + 128 : Nat) : Int) :: ys, ?_, g2, ?_, by simp; omega⟩
      · have hg : xs.length + [((n % 128 + 128 : Nat) : Int)].length ≤ LIM := by simp; omega
        simp only [ref04_Num.l0, hd, if_true, e1]
        rw [if_pos hg, e2, g1]
        simp
      · rw [numL_ge h1, List.cons_append, g3]
theorem ref04_Num_eq (a : Int) : ref04_Num a = some (strOfNums (numL (clampN a))) := by
  have hL := LIM_ge
  have hc := clampN_le a
  have e : (if 1125899906842624 < (if 0 > a then 0 else a) then 1125899906842624 else if 0 > a then 0 else a) = ((clampN a : Nat) : Int) := by
    unfold clampN; split <;> (try split) <;> omega
  obtain ⟨k, hk, hk2⟩ := FU_succ 100 (by omega)
  obtain ⟨m, ys, g1, g2, g3, g4⟩ := rNum_l0 7 FU (clampN a) [] (by omega) hc (by rw [hk]; omega) (by simp; omega)
  have e2 : wu8 (m : Int) = (m : Int) := by rw [wu8_eq]; omega
  unfold ref04_Num
  rw [e, g1]
  have hg : (([] : List Int) ++ ys).length + [(m : Int)].length ≤ LIM := by simp; omega
  simp only [Option.bind_some, e2]
  rw [if_pos hg]
  simp only [List.nil_append, g3]
end Go.Cen
