/- CHAIN: the laws on heads. -/
import Derived.Test.YthdoklobbcedcacChB
set_option linter.unusedVariables false
set_option linter.unusedSimpArgs false
set_option maxRecDepth 100000
namespace Go.Cen
theorem okL_take {a : List ApiEvent} (ha : okL a) (n : Nat) : okL (a.take n) := fun e he => ha e (List.mem_of_mem_take he)
theorem law06_ChainFirsts_eq (a0 : List ApiEvent) (a1 : Int) (s0 : sumsOk a0) : law06_ChainFirsts a0 a1 = some true := by
  unfold law06_ChainFirsts
  rw [works06]
  simp only [Option.bind_some, Bool.not_true, Bool.false_eq_true, if_false, Few_eq]
  cases f1 : fewE a0 with
  | false => rfl
  | true =>
    obtain ⟨o1, n1⟩ := few_ok s0 f1
    simp only [Bool.not_true, Bool.false_eq_true, if_false]
    by_cases h0 : a1 < 0
    · simp [h0]
    · by_cases h1 : a1 > (a0.length : Int)
      · simp [h0, h1]
      · have d0 : decide (a1 < 0) = false := by simpa using h0
        have d1 : decide (a1 > (a0.length : Int)) = false := by simpa using h1
        obtain ⟨n, rfl⟩ := Int.eq_ofNat_of_zero_le (show 0 ≤ a1 by omega)
        have hn : n ≤ a0.length := by omega
        have hs : sub a0 0 (n : Int) = a0.take n := by simp [sub]
        have g : (0 : Int) ≤ (0 : Int) ∧ (0 : Int) ≤ (n : Int) ∧ (n : Int) ≤ (a0.length : Int) := ⟨by omega, by omega, by omega⟩
        have o2 := okL_take o1 n
        have hlt : (a0.take n).length = n := by rw [List.length_take]; omega
        simp only [d0, d1, Bool.false_eq_true, if_false, Option.bind_some, Heads_eq o1 (by omega), g, and_self, if_true, hs, Heads_eq o2 (by omega), Start_eq, Head_eq hd0_eq.2.2.1 o2 (by omega)]
        cases v : allV a0 with
        | false => simp
        | true =>
          have v2 : allV (a0.take n) = true := by
            unfold allV at v ⊢
            exact List.all_eq_true.2 fun e he => List.all_eq_true.1 v e (List.mem_of_mem_take he)
          have l1 : (hds hd0 a0).length = a0.length + 1 := hds_len _ _
          have l2 : (hds hd0 (a0.take n)).length = n + 1 := by rw [hds_len, hlt]
          have z1 : (((hds hd0 a0).length : Int) == 0) = false := by rw [l1]; simp; omega
          have w1 : wi64 ((a0.length : Int) + 1) = (a0.length : Int) + 1 := wi64_id (by omega)
          have w2 : wi64 ((n : Int) + 1) = (n : Int) + 1 := wi64_id (by omega)
          have g1 : 0 ≤ (n : Int) ∧ (n : Int) < ((hds hd0 (a0.take n)).length : Int) := by rw [l2]; omega
          have g2 : 0 ≤ (n : Int) ∧ (n : Int) < ((hds hd0 a0).length : Int) := by rw [l1]; omega
          have e1 : gt (hds hd0 (a0.take n)) (n : Int) = fin hd0 (a0.take n) := by
            have := hds_last (a0.take n) hd0
            rwa [hlt] at this
          have e2 : gt (hds hd0 a0) (n : Int) = fin hd0 (a0.take n) := gt_some (hds_get a0 hd0 n hn)
          have b1 : (((hds hd0 a0).length : Int) == (a0.length : Int) + 1) = true := by rw [l1]; simp
          have b2 : (((hds hd0 (a0.take n)).length : Int) == (n : Int) + 1) = true := by rw [l2]; simp
          simp only [if_true, z1, Bool.false_eq_true, if_false, v2, headP, Option.bind_some, w1, w2, b1, b2, g1, g2, and_self, e1, e2, eqA_refl]
/-! ### two rows of one head -/
end Go.Cen
