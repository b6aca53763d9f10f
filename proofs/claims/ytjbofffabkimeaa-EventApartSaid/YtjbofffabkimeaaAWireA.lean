/- WIRE: numbers as bytes, both ways. -/
import Derived.Test.YtjbofffabkimeaaPx
import Derived.Test.YtjbofffabkimeaaCenMa
set_option linter.unusedVariables false
set_option linter.unusedSimpArgs false
namespace Go.Cen
/-- a number's bytes -/
def numL (n : Nat) : List Int := if n < 128 then [(n : Int)] else ((n % 128 + 128 : Nat) : Int) :: numL (n / 128)
termination_by n
decreasing_by omega
theorem numL_lt {n : Nat} (h : n < 128) : numL n = [(n : Int)] := by rw [numL, if_pos h]
theorem numL_ge {n : Nat} (h : ¬ n < 128) : numL n = ((n % 128 + 128 : Nat) : Int) :: numL (n / 128) := by rw [numL, if_neg h]
theorem numL_isB (n : Nat) : isB (numL n) := by
  induction n using Nat.strongRecOn with
  | _ n ih =>
    intro x hx
    by_cases h : n < 128
    · rw [numL_lt h] at hx; simp at hx; omega
    · rw [numL_ge h] at hx
      rcases List.mem_cons.1 hx with rfl | hx
      · omega
      · exact ih (n / 128) (by omega) x hx
/-- how long a number is -/
theorem numL_len : ∀ (f n : Nat), n < 128 ^ (f + 1) → (numL n).length ≤ f + 1
  | 0, n, h => by
    rw [numL_lt (by simpa using h)]; simp
  | f + 1, n, h => by
    by_cases h1 : n < 128
    · rw [numL_lt h1]; simp
    · rw [numL_ge h1]
      have := numL_len f (n / 128) (Nat.div_lt_of_lt_mul (by rw [Nat.pow_succ] at h; omega))
      simp only [List.length_cons]; omega
/-- the number that bytes begin with -/
def decN : Nat → List Int → Option (Nat × List Int)
  | 0, _ => none
  | _ + 1, [] => none
  | f + 1, b :: r => if b < 128 then some (b.toNat, r) else match decN f r with
    | some (n, r') => if n = 0 then none else some (b.toNat - 128 + 128 * n, r')
    | none => none
theorem decN_numL : ∀ (f n : Nat) (r : List Int), n < 128 ^ (f + 1) → decN (f + 1) (numL n ++ r) = some (n, r)
  | 0, n, r, h => by
    rw [numL_lt (by simpa using h)]
    have : ((n : Int)) < 128 := by have : n < 128 := by simpa using h
                                   omega
    simp [decN, this]
  | f + 1, n, r, h => by
    by_cases h1 : n < 128
    · rw [numL_lt h1]
      have : ((n : Int)) < 128 := by omega
      simp [decN, this]
    · rw [numL_ge h1]
      have h2 : ¬ (((n % 128 + 128 : Nat) : Int) < 128) := by omega
      have h3 := decN_numL f (n / 128) r (Nat.div_lt_of_lt_mul (by rw [Nat.pow_succ] at h; omega))
      have h4 : ¬ n / 128 = 0 := by omega
      simp only [List.cons_append, decN, h2, if_false, h3, h4, Int.toNat_natCast]
      congr 2
      omega
/-- at most 2^50 -/
def getN (l : List Int) : Option (Nat × List Int) := match decN 8 l with
  | some (n, r) => if n ≤ 1125899906842624 then some (n, r) else none
  | none => none
theorem getN_numL (n : Nat) (r : List Int) (h : n ≤ 1125899906842624) : getN (numL n ++ r) = some (n, r) := by
  unfold getN
  rw [decN_numL 7 n r (by omega)]
  simp [h]
theorem numL_inj {n m : Nat} {r s : List Int} (hn : n ≤ 1125899906842624) (hm : m ≤ 1125899906842624) (h : numL n ++ r = numL m ++ s) : n = m ∧ r = s := by
  have h1 := getN_numL n r hn
  rw [h, getN_numL m s hm] at h1
  simpa [eq_comm] using h1
def clampN (a : Int) : Nat := (if 1125899906842624 < (if 0 > a then 0 else a) then 1125899906842624 else if 0 > a then 0 else a).toNat
theorem clampN_le (a : Int) : clampN a ≤ 1125899906842624 := by unfold clampN; split <;> (try split) <;> omega
theorem clampN_id {a : Int} (h0 : 0 ≤ a) (h : a ≤ 1125899906842624) : (clampN a : Int) = a := by
  have h1 : (if 0 > a then 0 else a) = a := if_neg (by omega)
  unfold clampN
  rw [h1, if_neg (by omega)]; omega
theorem or128 : ∀ m < 256, (m ||| 128) = m % 128 + 128 := by decide +kernel
theorem LIM_ge : 1000000000 ≤ LIM := by decide +kernel
theorem wNum_l0 : ∀ (f k n : Nat) (xs : List Int), n < 128 ^ (f + 1) → f < k → xs.length + f + 5 ≤ LIM → ∃ (m : Nat) (ys : List Int), wire_Num.l0 k (n : Int) xs = some ((m : Int), xs ++ ys) ∧ m < 128 ∧ ys ++ [(m : Int)] = numL n ∧ ys.length ≤ f
  | f, 0, n, xs, h, hk, _ => by omega
  | 0, k + 1, n, xs, h, hk, hL => by
    have h1 : n < 128 := by simpa using h
    refine ⟨n, [], ?_, h1, by rw [numL_lt h1]; rfl, by simp⟩
    have : decide ((n : Int) ≥ 128) = false := by simp; omega
    simp only [wire_Num.l0, this, List.append_nil]
    rfl
  | f + 1, k + 1, n, xs, h, hk, hL => by
    by_cases h1 : n < 128
    · refine ⟨n, [], ?_, h1, by rw [numL_lt h1]; rfl, by simp⟩
      have : decide ((n : Int) ≥ 128) = false := by simp; omega
      simp only [wire_Num.l0, this, List.append_nil]
      rfl
    · have hd : decide ((n : Int) ≥ 128) = true := by simp; omega
      have e1 : bOr .u8 (wu8 (n : Int)) 128 = ((n % 128 + 128 : Nat) : Int) := by
        have e2 : wu8 (n : Int) = ((n % 256 : Nat) : Int) := by rw [wu8_eq]; omega
        have e3 := bOr_nat (k := .u8) rfl (n % 256) 128 (by show _ < 256; omega) (by show _ < 256; omega)
        rw [e2]
        refine e3.trans ?_
        have : ((n % 256) ||| 128) = n % 128 + 128 := by
          have h8 := or128 (n % 256) (by omega)
          omega
        rw [this]
      have e2 : bShr .i64 (n : Int) 7 = ((n / 128 : Nat) : Int) := by
        have := bShr_eq (k := .i64) (x := (n : Int)) (n := 7) (by decide)
        refine Eq.trans this ?_
        norm_cast
      obtain ⟨m, ys, g1, g2, g3, g4⟩ := wNum_l0 f k (n / 128) (xs ++ [((n % 128 + 128 : Nat) : Int)]) (Nat.div_lt_of_lt_mul (by rw [Nat.pow_succ] at h; omega)) (by omega) (by simp; omega)
      refine ⟨m, ((n % 128 + 128 : Nat) : Int) :: ys, ?_, g2, ?_, by simp; omega⟩
      · have hg : xs.length + [((n % 128 + 128 : Nat) : Int)].length ≤ LIM := by simp; omega
        simp only [wire_Num.l0, hd, if_true, e1]
        rw [if_pos hg, e2, g1]
        simp
      · rw [numL_ge h1, List.cons_append, g3]
theorem wire_Num_eq (a : Int) : wire_Num a = some (strOfNums (numL (clampN a))) := by
  have hL := LIM_ge
  have hc := clampN_le a
  have e : (if 1125899906842624 < (if 0 > a then 0 else a) then 1125899906842624 else if 0 > a then 0 else a) = ((clampN a : Nat) : Int) := by
    unfold clampN; split <;> (try split) <;> omega
  obtain ⟨k, hk, hk2⟩ := FU_succ 100 (by omega)
  obtain ⟨m, ys, g1, g2, g3, g4⟩ := wNum_l0 7 FU (clampN a) [] (by omega) (by rw [hk]; omega) (by simp; omega)
  have e2 : wu8 (m : Int) = (m : Int) := by rw [wu8_eq]; omega
  unfold wire_Num
  rw [e, g1]
  have hg : (([] : List Int) ++ ys).length + [(m : Int)].length ≤ LIM := by simp; omega
  simp only [Option.bind_some, e2]
  rw [if_pos hg]
  simp only [List.nil_append, g3]
end Go.Cen
