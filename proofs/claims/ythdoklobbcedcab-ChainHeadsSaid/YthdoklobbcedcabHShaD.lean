/- SHA: what is put behind a text; the digest of any text. -/
import Derived.Test.YthdoklobbcedcabHShaC
set_option linter.unusedVariables false
set_option linter.unusedSimpArgs false
namespace Go.Cen
theorem padL_length (xs : List Int) : (padL xs).length = xs.length + 1 + zerosN xs.length + 8 := by simp [padL, be8]; omega
theorem padL_mod (xs : List Int) : (padL xs).length % 64 = 0 := by
  have := (padN_facts xs.length).2.1
  rw [padL_length]; omega
theorem be8_isB (n : Nat) : isB (be8 n) := by
  intro x hx
  simp only [be8, List.mem_cons, List.not_mem_nil, or_false] at hx
  rcases hx with rfl | rfl | rfl | rfl | rfl | rfl | rfl | rfl <;> omega
theorem padL_isB {xs : List Int} (h : isB xs) : isB (padL xs) := by
  intro x hx
  simp only [padL, List.mem_append, List.mem_cons, List.not_mem_nil, or_false] at hx
  rcases hx with ((hx | rfl) | hx) | hx
  · exact h x hx
  · omega
  · rw [List.eq_of_mem_replicate hx]; omega
  · exact be8_isB _ x hx
theorem sha_l1 {a : ByteArray} (ha : a.size ≤ 1000000000000) {x : List Int} (hx : x.length ≤ 1000000000100) : sha_Pad.l1 a FU x 7 = some (x ++ be8 (8 * a.size)) := by
  obtain ⟨m, hF, _⟩ := FU_succ 9 (by omega)
  rw [hF]
  have hs : wu64 (a.size : Int) = (a.size : Int) := by rw [wu64_eq]; omega
  have h3 : bShl .u64 (a.size : Int) 3 = ((8 * a.size : Nat) : Int) := by
    simp [bShl, IntKind.bits, IntKind.wrap, IntKind.signed]; omega
  have sh : ∀ (v : Int) (i : Nat), i ≤ 64 → wu8 (bShr .u64 v (i : Int)) = v / 2 ^ i % 256 := fun v i hi => by rw [bShr_eq (by show i ≤ 64; omega), wu8_eq]
  have d7 : wi64 (7 - 1) = 6 := by decide +kernel
  have d6 : wi64 (6 - 1) = 5 := by decide +kernel
  have d5 : wi64 (5 - 1) = 4 := by decide +kernel
  have d4 : wi64 (4 - 1) = 3 := by decide +kernel
  have d3 : wi64 (3 - 1) = 2 := by decide +kernel
  have d2 : wi64 (2 - 1) = 1 := by decide +kernel
  have d1 : wi64 (1 - 1) = 0 := by decide +kernel
  have d0 : wi64 (0 - 1) = -1 := by decide +kernel
  have m7 : wi64 (8 * 7) = 56 := by decide +kernel
  have m6 : wi64 (8 * 6) = 48 := by decide +kernel
  have m5 : wi64 (8 * 5) = 40 := by decide +kernel
  have m4 : wi64 (8 * 4) = 32 := by decide +kernel
  have m3 : wi64 (8 * 3) = 24 := by decide +kernel
  have m2 : wi64 (8 * 2) = 16 := by decide +kernel
  have m1 : wi64 (8 * 1) = 8 := by decide +kernel
  have m0 : wi64 (8 * 0) = 0 := by decide +kernel
  have hl : ∀ ys : List Int, ys.length ≤ 8 → ∀ v : Int, (x ++ ys).length + ([v] : List Int).length ≤ LIM := fun ys hy v => by simp [LIM]; omega
  have hl0 : ∀ v : Int, x.length + ([v] : List Int).length ≤ LIM := fun v => by simp [LIM]; omega
  have c7 : decide ((7 : Int) ≥ 0) = true := rfl
  have c6 : decide ((6 : Int) ≥ 0) = true := rfl
  have c5 : decide ((5 : Int) ≥ 0) = true := rfl
  have c4 : decide ((4 : Int) ≥ 0) = true := rfl
  have c3 : decide ((3 : Int) ≥ 0) = true := rfl
  have c2 : decide ((2 : Int) ≥ 0) = true := rfl
  have c1 : decide ((1 : Int) ≥ 0) = true := rfl
  have c0 : decide ((0 : Int) ≥ 0) = true := rfl
  have c_ : decide ((-1 : Int) ≥ 0) = false := rfl
  have z : ∀ n : Nat, (0 : Int) ≤ (n : Int) := fun n => by omega
  have z56 : (0 : Int) ≤ 56 := by decide
  have z48 : (0 : Int) ≤ 48 := by decide
  have z40 : (0 : Int) ≤ 40 := by decide
  have z32 : (0 : Int) ≤ 32 := by decide
  have z24 : (0 : Int) ≤ 24 := by decide
  have z16 : (0 : Int) ≤ 16 := by decide
  have z8 : (0 : Int) ≤ 8 := by decide
  simp only [sha_Pad.l1, c7, c6, c5, c4, c3, c2, c1, c0, c_, if_true, m7, m6, m5, m4, m3, m2, m1, m0, hs, h3, z56, z48, z40, z32, z24, z16, z8, Int.le_refl, d7, d6, d5, d4, d3, d2, d1, d0, Bool.false_eq_true, if_false, List.append_assoc, hl0,
    hl _ (by simp : ([_] : List Int).length ≤ 8)]
  simp only [List.cons_append, List.nil_append]
  repeat rw [if_pos (hl _ (by simp) _)]
  have k56 := sh (8 * (a.size : Int)) 56 (by omega)
  have k48 := sh (8 * (a.size : Int)) 48 (by omega)
  have k40 := sh (8 * (a.size : Int)) 40 (by omega)
  have k32 := sh (8 * (a.size : Int)) 32 (by omega)
  have k24 := sh (8 * (a.size : Int)) 24 (by omega)
  have k16 := sh (8 * (a.size : Int)) 16 (by omega)
  have k8 := sh (8 * (a.size : Int)) 8 (by omega)
  have k0 := sh (8 * (a.size : Int)) 0 (by omega)
  simp [be8]
  refine ⟨?_, ?_, ?_, ?_, ?_, ?_, ?_, ?_⟩
  · simpa using k56
  · simpa using k48
  · simpa using k40
  · simpa using k32
  · simpa using k24
  · simpa using k16
  · simpa using k8
  · simpa using k0
theorem ref_l1 {n : Nat} (hn : n ≤ 1000000000000) : ref02_Pad.l1 FU ((8 * n : Nat) : Int) [] 0 = some (be8 (8 * n)) := by
  obtain ⟨m, hF, _⟩ := FU_succ 9 (by omega)
  rw [hF]
  have step : ∀ (v : Nat) (ys : List Int) (i : Int) (k : Nat), v < 2 ^ 63 → ys.length ≤ 8 → 0 ≤ i → i < 8 → ref02_Pad.l1 (k + 1) (v : Int) ys i = ref02_Pad.l1 k ((v / 256 : Nat) : Int) (((v % 256 : Nat) : Int) :: ys) (i + 1) := by
    intro v ys i k hv hy h0 h8
    have d : decide (i < 8) = true := by simpa using h8
    have e1 : wi64 (i + 1) = i + 1 := wi64_id (by omega)
    have e2 : (v : Int).tmod 256 = ((v % 256 : Nat) : Int) := by rw [Int.tmod_eq_emod_of_nonneg (by omega)]; rfl
    have e3 : (v : Int).tdiv 256 = ((v / 256 : Nat) : Int) := by rw [Int.tdiv_eq_ediv_of_nonneg (by omega)]; rfl
    have e4 : wu8 ((v % 256 : Nat) : Int) = ((v % 256 : Nat) : Int) := by rw [wu8_eq]; omega
    have e5 : wu64 ((v / 256 : Nat) : Int) = ((v / 256 : Nat) : Int) := by rw [wu64_eq]; omega
    have hl : ([((v % 256 : Nat) : Int)] : List Int).length + ys.length ≤ LIM := by simp [LIM]; omega
    simp only [ref02_Pad.l1, d, if_true, e1, e2, e3, e4, e5, hl, List.cons_append, List.nil_append]
  have hv : 8 * n < 2 ^ 63 := by omega
  have r : ∀ v j : Nat, v / 256 ^ j / 256 = v / 256 ^ (j + 1) := fun v j => by rw [Nat.div_div_eq_div_mul, Nat.pow_succ]
  rw [step (8 * n) [] 0 _ hv (by simp) (by omega) (by omega)]
  rw [step (8 * n / 256) _ _ _ (by omega) (by simp) (by omega) (by omega)]
  rw [step (8 * n / 256 / 256) _ _ _ (by omega) (by simp) (by omega) (by omega)]
  rw [step (8 * n / 256 / 256 / 256) _ _ _ (by omega) (by simp) (by omega) (by omega)]
  rw [step (8 * n / 256 / 256 / 256 / 256) _ _ _ (by omega) (by simp) (by omega) (by omega)]
  rw [step (8 * n / 256 / 256 / 256 / 256 / 256) _ _ _ (by omega) (by simp) (by omega) (by omega)]
  rw [step (8 * n / 256 / 256 / 256 / 256 / 256 / 256) _ _ _ (by omega) (by simp) (by omega) (by omega)]
  rw [step (8 * n / 256 / 256 / 256 / 256 / 256 / 256 / 256) _ _ _ (by omega) (by simp) (by omega) (by omega)]
  simp only [ref02_Pad.l1, show decide ((0 : Int) + 1 + 1 + 1 + 1 + 1 + 1 + 1 + 1 < 8) = false from rfl, Bool.false_eq_true, if_false, be8]
  congr 1
  refine List.cons_eq_cons.2 ⟨by omega, List.cons_eq_cons.2 ⟨by omega, List.cons_eq_cons.2 ⟨by omega, List.cons_eq_cons.2 ⟨by omega, List.cons_eq_cons.2 ⟨by omega, List.cons_eq_cons.2 ⟨by omega, List.cons_eq_cons.2 ⟨by omega, List.cons_eq_cons.2 ⟨by omega, rfl⟩⟩⟩⟩⟩⟩⟩⟩
/-- WHAT IS PUT BEHIND A TEXT: both alike. -/
theorem pad_both {a : ByteArray} (ha : a.size ≤ 1000000000000) : sha_Pad a = some (strOfNums (padL (byts a))) ∧ ref02_Pad a = some (strOfNums (padL (byts a))) := by
  obtain ⟨p1, p2, p3⟩ := padN_facts (byts a).length
  have hb := byts_length a
  obtain ⟨h1, h2⟩ := pad_l0 (zerosN (byts a).length) FU (byts a ++ [128]) (by simp [FU]; omega) (by simp; omega) (fun j hj => by have := p3 j hj; simp; omega) (by simp [LIM]; omega)
  have g1 : a.size ≤ LIM := by simp [LIM]; omega
  have g2 : (byts a).length + ([128] : List Int).length ≤ LIM := by simp [LIM]; omega
  have hx : (byts a ++ [128] ++ List.replicate (zerosN (byts a).length) (0 : Int)).length ≤ 1000000000100 := by simp; omega
  constructor
  · unfold sha_Pad
    rw [if_pos g1, if_pos g2, h1]
    simp only [Option.bind_some]
    rw [sha_l1 ha hx]
    simp only [Option.bind_some, padL, hb]
  · unfold ref02_Pad
    have e : wu64 (wu64 (a.size : Int) * 8) = ((8 * a.size : Nat) : Int) := by rw [wu64_eq, wu64_eq]; omega
    rw [if_pos g1, if_pos g2, h2, e, ref_l1 ha]
    simp only [Option.bind_some]
    rw [if_pos (by simp only [be8, LIM, List.length_cons, List.length_nil]; omega)]
    simp only [padL, hb]
end Go.Cen
