/- EVENT: a number's digits, whatever the library's table holds: there are some. -/
import Derived.Test.YtjbofffabkimeaaAuQ
import Derived.Test.YtjbofffabkimeaaAEvD
set_option linter.unusedVariables false
set_option linter.unusedSimpArgs false
set_option maxRecDepth 100000
namespace Go.Cen
theorem long0 : (longT0.size : Int) = 200 := by decide +kernel
theorem long1 : (longT1.size : Int) = 256 := by decide +kernel
theorem pair_some (l : List Int) (E p q : Int) (hE : 0 ≤ E ∧ E ≤ 99) (hp : 0 ≤ p ∧ p < (l.length : Int)) (hq : 0 ≤ q ∧ q < (l.length : Int)) :
    ∃ l', (if 0 ≤ (wu32 ((wu32 (E * 2)) + 1)) ∧ (wu32 ((wu32 (E * 2)) + 1)) < (longT0.size : Int) then (if 0 ≤ p ∧ p < (l.length : Int) then (if 0 ≤ (wu32 (E * 2)) ∧ (wu32 (E * 2)) < (longT0.size : Int) then (if 0 ≤ q ∧ q < ((st l p (bt longT0 (wu32 ((wu32 (E * 2)) + 1)))).length : Int) then some (st (st l p (bt longT0 (wu32 ((wu32 (E * 2)) + 1)))) q (bt longT0 (wu32 (E * 2)))) else none) else none) else none) else none) = some l' ∧ l'.length = l.length := by
  have a : wu32 (E * 2) = E * 2 := by rw [wu32_eq]; omega
  have b : wu32 (E * 2 + 1) = E * 2 + 1 := by rw [wu32_eq]; omega
  rw [a, b, long0, if_pos (by omega), if_pos hp, if_pos (by omega), if_pos (by rw [st_length]; exact hq)]
  exact ⟨_, rfl, by rw [st_length, st_length]⟩
theorem tm {y : Int} (h : 0 ≤ y) (c : Int) : y.tmod c = y % c := Int.tmod_eq_emod_of_nonneg h
theorem td {y : Int} (h : 0 ≤ y) (c : Int) : y.tdiv c = y / c := Int.tdiv_eq_ediv_of_nonneg h
theorem e_mm {X : Int} (h : 0 ≤ X) : 0 ≤ (X.tmod 10000).tmod 100 ∧ (X.tmod 10000).tmod 100 ≤ 99 := by
  have a : 0 ≤ X.tmod 10000 := by rw [tm h]; omega
  rw [tm a]; omega
theorem e_md {X : Int} (h : 0 ≤ X) : 0 ≤ wu32 ((X.tmod 10000).tdiv 100) ∧ wu32 ((X.tmod 10000).tdiv 100) ≤ 99 := by
  have a : 0 ≤ X.tmod 10000 := by rw [tm h]; omega
  have b : X.tmod 10000 < 10000 := by rw [tm h]; omega
  rw [wu32_eq, td a]; omega
theorem e_dm {X : Int} (h : 0 ≤ X) : 0 ≤ (wu32 (X.tdiv 10000)).tmod 100 ∧ (wu32 (X.tdiv 10000)).tmod 100 ≤ 99 := by
  have a : 0 ≤ wu32 (X.tdiv 10000) := by rw [wu32_eq]; omega
  rw [tm a]; omega
theorem e_dd {X : Int} (h : 0 ≤ X) (h2 : X < 100000000) : 0 ≤ wu32 ((wu32 (X.tdiv 10000)).tdiv 100) ∧ wu32 ((wu32 (X.tdiv 10000)).tdiv 100) ≤ 99 := by
  have a : wu32 (X.tdiv 10000) = X / 10000 := by rw [wu32_eq, td h]; omega
  rw [a, wu32_eq, td (by omega)]; omega
theorem e_m {X : Int} (h : 0 ≤ X) : 0 ≤ X.tmod 100 ∧ X.tmod 100 ≤ 99 := by rw [tm h]; omega
theorem fb_l0 : ∀ (k n : Nat) (l : List Int) (u : Int), n < k → n ≤ l.length → l.length ≤ 1000 → 0 ≤ u → ∃ l' u' n', strconv_formatBase10.l0 k l u (n : Int) = some (l', u', ((n' : Nat) : Int)) ∧ l'.length = l.length ∧ 0 ≤ u' ∧ n' ≤ n
  | 0, n, l, u, hk, _, _, _ => by omega
  | k + 1, n, l, u, hk, hn, hl, hu => by
    by_cases c : n < 8
    · have d : decide ((n : Int) ≥ 8) = false := by simp; omega
      exact ⟨l, u, n, by simp only [strconv_formatBase10.l0, d, Bool.false_eq_true, if_false], rfl, hu, Nat.le_refl _⟩
    · have d : decide ((n : Int) ≥ 8) = true := by simp; omega
      have w : ∀ j : Nat, j ≤ 8 → wi64 ((n : Int) - (j : Int)) = ((n - j : Nat) : Int) := fun j hj => by rw [wi64_id (by omega)]; omega
      have w1 := w 1 (by omega); have w2 := w 2 (by omega); have w3 := w 3 (by omega); have w4 := w 4 (by omega)
      have w5 := w 5 (by omega); have w6 := w 6 (by omega); have w7 := w 7 (by omega); have w8 := w 8 (by omega)
      simp only [strconv_formatBase10.l0, d, if_true]
      have hX0 : 0 ≤ wu32 (u.tmod 100000000) := by rw [wu32_eq]; omega
      have hX1 : wu32 (u.tmod 100000000) < 100000000 := by rw [wu32_eq, tm hu]; omega
      obtain ⟨X, hX⟩ : ∃ X, X = wu32 (u.tmod 100000000) := ⟨_, rfl⟩
      rw [← hX] at hX0 hX1
      simp only [← hX]
      obtain ⟨l1, q1, n1⟩ := pair_some l ((X.tmod 10000).tmod 100) (wi64 ((n : Int) - 1)) (wi64 ((n : Int) - 2)) (e_mm hX0) (by rw [show (1 : Int) = ((1 : Nat) : Int) from rfl, w1]; omega) (by rw [show (2 : Int) = ((2 : Nat) : Int) from rfl, w2]; omega)
      rw [q1]; simp only [Option.bind_some]
      obtain ⟨l2, q2, n2⟩ := pair_some l1 (wu32 ((X.tmod 10000).tdiv 100)) (wi64 ((n : Int) - 3)) (wi64 ((n : Int) - 4)) (e_md hX0) (by rw [show (3 : Int) = ((3 : Nat) : Int) from rfl, w3]; omega) (by rw [show (4 : Int) = ((4 : Nat) : Int) from rfl, w4]; omega)
      rw [q2]; simp only [Option.bind_some]
      obtain ⟨l3, q3, n3⟩ := pair_some l2 ((wu32 (X.tdiv 10000)).tmod 100) (wi64 ((n : Int) - 5)) (wi64 ((n : Int) - 6)) (e_dm hX0) (by rw [show (5 : Int) = ((5 : Nat) : Int) from rfl, w5]; omega) (by rw [show (6 : Int) = ((6 : Nat) : Int) from rfl, w6]; omega)
      rw [q3]; simp only [Option.bind_some]
      obtain ⟨l4, q4, n4⟩ := pair_some l3 (wu32 ((wu32 (X.tdiv 10000)).tdiv 100)) (wi64 ((n : Int) - 7)) (wi64 ((n : Int) - 8)) (e_dd hX0 hX1) (by rw [show (7 : Int) = ((7 : Nat) : Int) from rfl, w7]; omega) (by rw [show (8 : Int) = ((8 : Nat) : Int) from rfl, w8]; omega)
      rw [q4]; simp only [Option.bind_some]
      have e8 : wi64 ((n : Int) - 8) = ((n - 8 : Nat) : Int) := w8
      rw [e8]
      obtain ⟨l', u', n', a1, a2, a3, a4⟩ := fb_l0 k (n - 8) l4 (wu64 (u.tdiv 100000000)) (by omega) (by omega) (by omega) (by rw [wu64_eq]; omega)
      exact ⟨l', u', n', a1, by omega, a3, by omega⟩
theorem fb_some (l : List Int) (u : Int) (hl : l.length ≤ 1000) (hu : 0 ≤ u) : ∃ r, strconv_formatBase10 l u = some r ∧ r.length = l.length := by
  have hF : FU = 4611686018427387904 := rfl
  unfold strconv_formatBase10
  obtain ⟨x1, x5, n, e, h1, h2, h3⟩ := fb_l0 FU l.length l u (by omega) (Nat.le_refl _) hl hu
  rw [e]; simp only [Option.bind_some]
  have hX0 : 0 ≤ wu32 x5 := by rw [wu32_eq]; omega
  have w : ∀ (n j : Nat), n ≤ 1000 → j ≤ n → wi64 ((n : Int) - (j : Int)) = ((n - j : Nat) : Int) := fun n j hn hj => by rw [wi64_id (by omega)]; omega
  have s1 : ∃ y z, ∃ m : Nat, (if (decide ((n : Int) ≥ 4)) = true then ((if 0 ≤ (wu32 ((wu32 ((((wu32 x5).tmod 10000).tmod 100) * 2)) + 1)) ∧ (wu32 ((wu32 ((((wu32 x5).tmod 10000).tmod 100) * 2)) + 1)) < (longT0.size : Int) then (if 0 ≤ (wi64 ((n : Int) - 1)) ∧ (wi64 ((n : Int) - 1)) < (x1.length : Int) then (if 0 ≤ (wu32 ((((wu32 x5).tmod 10000).tmod 100) * 2)) ∧ (wu32 ((((wu32 x5).tmod 10000).tmod 100) * 2)) < (longT0.size : Int) then (if 0 ≤ (wi64 ((n : Int) - 2)) ∧ (wi64 ((n : Int) - 2)) < ((st x1 (wi64 ((n : Int) - 1)) (bt longT0 (wu32 ((wu32 ((((wu32 x5).tmod 10000).tmod 100) * 2)) + 1)))).length : Int) then some (st (st x1 (wi64 ((n : Int) - 1)) (bt longT0 (wu32 ((wu32 ((((wu32 x5).tmod 10000).tmod 100) * 2)) + 1)))) (wi64 ((n : Int) - 2)) (bt longT0 (wu32 ((((wu32 x5).tmod 10000).tmod 100) * 2)))) else none) else none) else none) else none).bind fun x109 => ((if 0 ≤ (wu32 ((wu32 ((wu32 (((wu32 x5).tmod 10000).tdiv 100)) * 2)) + 1)) ∧ (wu32 ((wu32 ((wu32 (((wu32 x5).tmod 10000).tdiv 100)) * 2)) + 1)) < (longT0.size : Int) then (if 0 ≤ (wi64 ((n : Int) - 3)) ∧ (wi64 ((n : Int) - 3)) < (x109.length : Int) then (if 0 ≤ (wu32 ((wu32 (((wu32 x5).tmod 10000).tdiv 100)) * 2)) ∧ (wu32 ((wu32 (((wu32 x5).tmod 10000).tdiv 100)) * 2)) < (longT0.size : Int) then (if 0 ≤ (wi64 ((n : Int) - 4)) ∧ (wi64 ((n : Int) - 4)) < ((st x109 (wi64 ((n : Int) - 3)) (bt longT0 (wu32 ((wu32 ((wu32 (((wu32 x5).tmod 10000).tdiv 100)) * 2)) + 1)))).length : Int) then some (st (st x109 (wi64 ((n : Int) - 3)) (bt longT0 (wu32 ((wu32 ((wu32 (((wu32 x5).tmod 10000).tdiv 100)) * 2)) + 1)))) (wi64 ((n : Int) - 4)) (bt longT0 (wu32 ((wu32 (((wu32 x5).tmod 10000).tdiv 100)) * 2)))) else none) else none) else none) else none).bind fun x131 => some (x131, wi64 ((n : Int) - 4), wu32 ((wu32 x5).tdiv 10000)))) else some (x1, (n : Int), wu32 x5)) = some (y, (m : Int), z) ∧ y.length = l.length ∧ m ≤ n ∧ 0 ≤ z := by
    by_cases c : n < 4
    · have d : decide ((n : Int) ≥ 4) = false := by simp; omega
      exact ⟨x1, wu32 x5, n, by simp only [d, Bool.false_eq_true, if_false], h1, Nat.le_refl _, hX0⟩
    · have d : decide ((n : Int) ≥ 4) = true := by simp; omega
      have w1 := w n 1 (by omega) (by omega); have w2 := w n 2 (by omega) (by omega); have w3 := w n 3 (by omega) (by omega); have w4 := w n 4 (by omega) (by omega)
      obtain ⟨l1, q1, n1⟩ := pair_some x1 (((wu32 x5).tmod 10000).tmod 100) (wi64 ((n : Int) - 1)) (wi64 ((n : Int) - 2)) (e_mm hX0) (by rw [show (1 : Int) = ((1 : Nat) : Int) from rfl, w1]; omega) (by rw [show (2 : Int) = ((2 : Nat) : Int) from rfl, w2]; omega)
      obtain ⟨l2, q2, n2⟩ := pair_some l1 (wu32 (((wu32 x5).tmod 10000).tdiv 100)) (wi64 ((n : Int) - 3)) (wi64 ((n : Int) - 4)) (e_md hX0) (by rw [show (3 : Int) = ((3 : Nat) : Int) from rfl, w3]; omega) (by rw [show (4 : Int) = ((4 : Nat) : Int) from rfl, w4]; omega)
      refine ⟨l2, wu32 ((wu32 x5).tdiv 10000), n - 4, ?_, by omega, by omega, by rw [wu32_eq]; omega⟩
      have e4 : wi64 ((n : Int) - 4) = ((n - 4 : Nat) : Int) := w4
      simp only [d, if_true]
      rw [q1]; simp only [Option.bind_some]
      rw [q2]; simp only [Option.bind_some, e4]
  obtain ⟨y, z, m, s1, y1, y2, y3⟩ := s1
  rw [s1]; simp only [Option.bind_some]
  have s2 : ∃ y' z', ∃ m' : Nat, (if (decide ((m : Int) ≥ 2)) = true then ((if 0 ≤ (wu32 ((wu32 ((z.tmod 100) * 2)) + 1)) ∧ (wu32 ((wu32 ((z.tmod 100) * 2)) + 1)) < (longT0.size : Int) then (if 0 ≤ (wi64 ((m : Int) - 1)) ∧ (wi64 ((m : Int) - 1)) < (y.length : Int) then (if 0 ≤ (wu32 ((z.tmod 100) * 2)) ∧ (wu32 ((z.tmod 100) * 2)) < (longT0.size : Int) then (if 0 ≤ (wi64 ((m : Int) - 2)) ∧ (wi64 ((m : Int) - 2)) < ((st y (wi64 ((m : Int) - 1)) (bt longT0 (wu32 ((wu32 ((z.tmod 100) * 2)) + 1)))).length : Int) then some (st (st y (wi64 ((m : Int) - 1)) (bt longT0 (wu32 ((wu32 ((z.tmod 100) * 2)) + 1)))) (wi64 ((m : Int) - 2)) (bt longT0 (wu32 ((z.tmod 100) * 2)))) else none) else none) else none) else none).bind fun x160 => some (x160, wi64 ((m : Int) - 2), wu32 (z.tdiv 100))) else some (y, (m : Int), z)) = some (y', (m' : Int), z') ∧ y'.length = l.length ∧ m' ≤ m := by
    by_cases c : m < 2
    · have d : decide ((m : Int) ≥ 2) = false := by simp; omega
      exact ⟨y, z, m, by simp only [d, Bool.false_eq_true, if_false], y1, Nat.le_refl _⟩
    · have d : decide ((m : Int) ≥ 2) = true := by simp; omega
      have w1 := w m 1 (by omega) (by omega); have w2 := w m 2 (by omega) (by omega)
      obtain ⟨l1, q1, n1⟩ := pair_some y (z.tmod 100) (wi64 ((m : Int) - 1)) (wi64 ((m : Int) - 2)) (e_m y3) (by rw [show (1 : Int) = ((1 : Nat) : Int) from rfl, w1]; omega) (by rw [show (2 : Int) = ((2 : Nat) : Int) from rfl, w2]; omega)
      refine ⟨l1, wu32 (z.tdiv 100), m - 2, ?_, by omega, by omega⟩
      have e2 : wi64 ((m : Int) - 2) = ((m - 2 : Nat) : Int) := w2
      simp only [d, if_true]
      rw [q1]; simp only [Option.bind_some, e2]
  obtain ⟨y', z', m', s2, y4, y5⟩ := s2
  rw [s2]; simp only [Option.bind_some]
  by_cases c : 0 < m'
  · have d : decide ((m' : Int) > 0) = true := by simp; omega
    simp only [d, if_true]
    rw [if_pos (by omega), if_pos (by rw [st_length]; exact y4)]
    exact ⟨_, rfl, by rw [st_length]; exact y4⟩
  · have d : decide ((m' : Int) > 0) = false := by simp; omega
    simp only [d, Bool.false_eq_true, if_false, y4, if_true]
    exact ⟨_, rfl, y4⟩
theorem small_some : ∀ n < 100, (match strconv_small ((n : Nat) : Int) with | some s => decide (s.size ≤ 2) | none => false) = true := by decide +kernel
theorem tab8 : ∀ x ∈ byts longT1, 0 ≤ x ∧ x ≤ 8 := by decide +kernel
theorem len_some {u : Int} (h0 : 0 ≤ u) (h1 : u < 18446744073709551616) : ∃ v, bits_Len64 u = some v ∧ 0 ≤ v ∧ v ≤ 64 := by
  have fin : ∀ (x s : Int), 0 ≤ s → s ≤ 56 → ∃ v, (if 0 ≤ (wu8 x) ∧ (wu8 x) < (longT1.size : Int) then some (wi64 (s + (wi64 (bt longT1 (wu8 x))))) else none) = some v ∧ 0 ≤ v ∧ v ≤ 64 := fun x s a b => by
    have t := gt_all (p := fun x => 0 ≤ x ∧ x ≤ 8) tab8 ⟨by decide, by decide⟩ (wu8 x)
    rw [← bt_eq] at t
    have t1 : wi64 (bt longT1 (wu8 x)) = bt longT1 (wu8 x) := wi64_id (by omega)
    rw [long1, if_pos (by rw [wu8_eq]; omega), t1]
    exact ⟨_, rfl, by rw [wi64_id (by omega)]; omega, by rw [wi64_id (by omega)]; omega⟩
  have k : ∀ (c : Bool) (a b : Int × Int), (if c = true then some a else some b) = some (if c = true then a else b) := fun c a b => by cases c <;> rfl
  unfold bits_Len64
  simp only [k, Option.bind_some]
  have w8 : ∀ s : Int, 0 ≤ s → s ≤ 48 → wi64 (s + 8) = s + 8 := fun s _ _ => wi64_id (by omega)
  have w16 : ∀ s : Int, 0 ≤ s → s ≤ 48 → wi64 (s + 16) = s + 16 := fun s _ _ => wi64_id (by omega)
  by_cases c1 : u ≥ 4294967296
  · simp only [c1, decide_true, if_true]
    by_cases c2 : bShr .u64 u 32 ≥ 65536
    · simp only [c2, decide_true, if_true]
      by_cases c3 : bShr .u64 (bShr .u64 u 32) 16 ≥ 256
      · simp only [c3, decide_true, if_true]; exact fin _ _ (by rw [w16 _ (by omega) (by omega), w8 _ (by omega) (by omega)]; omega) (by rw [w16 _ (by omega) (by omega), w8 _ (by omega) (by omega)]; omega)
      · simp only [c3, decide_false, Bool.false_eq_true, if_false]; exact fin _ _ (by rw [w16 _ (by omega) (by omega)]; omega) (by rw [w16 _ (by omega) (by omega)]; omega)
    · simp only [c2, decide_false, Bool.false_eq_true, if_false]
      by_cases c3 : bShr .u64 u 32 ≥ 256
      · simp only [c3, decide_true, if_true]; exact fin _ _ (by rw [w8 _ (by omega) (by omega)]; omega) (by rw [w8 _ (by omega) (by omega)]; omega)
      · simp only [c3, decide_false, Bool.false_eq_true, if_false]; exact fin _ _ (by omega) (by omega)
  · simp only [c1, decide_false, Bool.false_eq_true, if_false]
    by_cases c2 : u ≥ 65536
    · simp only [c2, decide_true, if_true]
      by_cases c3 : bShr .u64 u 16 ≥ 256
      · simp only [c3, decide_true, if_true]; exact fin _ _ (by rw [w16 _ (by omega) (by omega), w8 _ (by omega) (by omega)]; omega) (by rw [w16 _ (by omega) (by omega), w8 _ (by omega) (by omega)]; omega)
      · simp only [c3, decide_false, Bool.false_eq_true, if_false]; exact fin _ _ (by rw [w16 _ (by omega) (by omega)]; omega) (by rw [w16 _ (by omega) (by omega)]; omega)
    · simp only [c2, decide_false, Bool.false_eq_true, if_false]
      by_cases c3 : u ≥ 256
      · simp only [c3, decide_true, if_true]; exact fin _ _ (by rw [w8 _ (by omega) (by omega)]; omega) (by rw [w8 _ (by omega) (by omega)]; omega)
      · simp only [c3, decide_false, Bool.false_eq_true, if_false]; exact fin _ _ (by omega) (by omega)
theorem nd_some [TabC] {u : Int} (h0 : 0 ≤ u) (h1 : u < 18446744073709551616) : ∃ m : Nat, strconv_numDigits u = some (m : Int) ∧ m ≤ 20 := by
  obtain ⟨v, e, v0, v1⟩ := len_some h0 h1
  have hs : bShr .i64 (v * 78913) 18 = v * 78913 / 262144 := by
    have := bShr_eq (k := .i64) (x := v * 78913) (n := 18) (by decide)
    exact this
  unfold strconv_numDigits strconv_log10Pow2 strconv_bool2_int
  rw [e]
  simp only [Option.bind_some, wi64_id (show -9223372036854775808 ≤ v * 78913 ∧ v * 78913 < 9223372036854775808 by omega), hs]
  rw [if_pos (by omega)]
  by_cases c : u ≥ gt tab0 (v * 78913 / 262144)
  · simp only [c, decide_true, if_true, Option.bind_some]
    exact ⟨(v * 78913 / 262144 + 1).toNat, by rw [wi64_id (by omega)]; congr 1; omega, by omega⟩
  · simp only [c, decide_false, Bool.false_eq_true, if_false, Option.bind_some]
    exact ⟨(v * 78913 / 262144).toNat, by rw [wi64_id (by omega)]; congr 1; omega, by omega⟩
theorem Itoa_some [TabC] {a : Int} (h0 : 0 ≤ a) (h1 : a < 9223372036854775808) : ∃ s, strconv_Itoa a = some s ∧ s.size ≤ 20 := by
  unfold strconv_Itoa strconv_Itoa' strconv_FormatInt
  rw [if_pos ⟨rfl, h0⟩]
  by_cases c : a < 100
  · rw [if_pos c]
    obtain ⟨n, rfl⟩ := Int.eq_ofNat_of_zero_le h0
    have := small_some n (by omega)
    cases hs : strconv_small (n : Int) with
    | none => rw [hs] at this; cases this
    | some s =>
      rw [hs] at this
      simp only [decide_eq_true_eq] at this
      exact ⟨s, rfl, by omega⟩
  · rw [if_neg c]
    have hw : wu64 a = a := by rw [wu64_eq]; omega
    obtain ⟨m, e, hm⟩ := nd_some (u := a) h0 (by omega)
    obtain ⟨r, e2, hr⟩ := fb_some (List.replicate m (0 : Int)) a (by simp; omega) h0
    rw [hw, e]
    simp only [Option.bind_some, Int.toNat_natCast, e2]
    rw [if_pos (by omega)]
    exact ⟨_, rfl, by rw [strOfNums_size, hr, List.length_replicate]; exact hm⟩
end Go.Cen
