/- SHA: a block mixed in. -/
import Derived.Test.YthdoklobbcedcabHShaB
set_option linter.unusedVariables false
set_option linter.unusedSimpArgs false
namespace Go.Cen
theorem bNot_eq {x : Int} (hx : u32 x) : bNot .u32 x = wu32 (4294967295 - x) := by
  obtain ⟨n, rfl⟩ := Int.eq_ofNat_of_zero_le hx.1
  have hn : n < 2 ^ 32 := by have := hx.2; omega
  have e : (if IntKind.signed .u32 = true then (-1 : Int) else IntKind.max .u32) = ((4294967295 : Nat) : Int) := rfl
  have h : 4294967295 ^^^ n = 4294967295 - n := by
    have h1 : (BitVec.allOnes 32 ^^^ BitVec.ofNat 32 n).toNat = 4294967295 ^^^ n := by
      rw [BitVec.toNat_xor, BitVec.toNat_allOnes, BitVec.toNat_ofNat, Nat.mod_eq_of_lt hn]
    rw [BitVec.allOnes_xor, BitVec.toNat_not, BitVec.toNat_ofNat, Nat.mod_eq_of_lt hn] at h1
    omega
  unfold bNot
  rw [e, bXor_nat (k := .u32) rfl _ _ (by decide) hn, h, wu32_eq]
  omega
theorem list8 {x : List Int} (h : x.length = 8) : ∃ a b c d e f g i, x = [a, b, c, d, e, f, g, i] := by
  match x, h with
  | [a, b, c, d, e, f, g, i], _ => exact ⟨a, b, c, d, e, f, g, i, rfl⟩
theorem u32_wu32 (x : Int) : u32 (wu32 x) := by rw [wu32_eq]; exact ⟨by omega, by omega⟩
set_option maxHeartbeats 1000000 in
theorem mix_step (K ws : List Int) : ∀ (n : Nat) (i : Int) (k k' : Nat) (x : List Int), i = 64 - n → n ≤ 64 → n < k → n < k' → x.length = 8 → (∀ y ∈ x, u32 y) →
      ∃ r, sha_mix.l0 K ws k i x = some r ∧ ref02_Of.l3 K ws k' i x = some r ∧ r.length = 8 ∧ ∀ y ∈ r, u32 y := by
  intro n
  induction n with
  | zero =>
    intro i k k' x hi _ hk hk' hx hu
    obtain ⟨k, rfl⟩ : ∃ m, k = m + 1 := ⟨k - 1, by omega⟩
    obtain ⟨k', rfl⟩ : ∃ m, k' = m + 1 := ⟨k' - 1, by omega⟩
    have : decide (i < 64) = false := by simp; omega
    simp only [sha_mix.l0, ref02_Of.l3, this, Bool.false_eq_true, if_false]
    exact ⟨x, rfl, rfl, hx, hu⟩
  | succ n ih =>
    intro i k k' x hi hd hk hk' hx hu
    obtain ⟨k, rfl⟩ : ∃ m, k = m + 1 := ⟨k - 1, by omega⟩
    obtain ⟨k', rfl⟩ : ∃ m, k' = m + 1 := ⟨k' - 1, by omega⟩
    have hlt : decide (i < 64) = true := by simp; omega
    have e1 : wi64 (i + 1) = i + 1 := wi64_id (by omega)
    have gi : 0 ≤ i ∧ i < 64 := ⟨by omega, by omega⟩
    obtain ⟨a, b, c, d, e, f, g, h, rfl⟩ := list8 hx
    have ua : u32 a := hu a (by simp)
    have ue : u32 e := hu e (by simp)
    obtain ⟨r6, p1, q1, _⟩ := right_both ue (n := 6) (by decide) (by decide)
    obtain ⟨r11, p2, q2, _⟩ := right_both ue (n := 11) (by decide) (by decide)
    obtain ⟨r25, p3, q3, _⟩ := right_both ue (n := 25) (by decide) (by decide)
    obtain ⟨r2, p4, q4, _⟩ := right_both ua (n := 2) (by decide) (by decide)
    obtain ⟨r13, p5, q5, _⟩ := right_both ua (n := 13) (by decide) (by decide)
    obtain ⟨r22, p6, q6, _⟩ := right_both ua (n := 22) (by decide) (by decide)
    have c6 : ((6 : Nat) : Int) = 6 := rfl
    have c11 : ((11 : Nat) : Int) = 11 := rfl
    have c25 : ((25 : Nat) : Int) = 25 := rfl
    have c2 : ((2 : Nat) : Int) = 2 := rfl
    have c13 : ((13 : Nat) : Int) = 13 := rfl
    have c22 : ((22 : Nat) : Int) = 22 := rfl
    rw [c6] at p1 q1; rw [c11] at p2 q2; rw [c25] at p3 q3; rw [c2] at p4 q4; rw [c13] at p5 q5; rw [c22] at p6 q6
    have g0 : gt [a, b, c, d, e, f, g, h] 0 = a := rfl
    have g1 : gt [a, b, c, d, e, f, g, h] 1 = b := rfl
    have g2 : gt [a, b, c, d, e, f, g, h] 2 = c := rfl
    have g3 : gt [a, b, c, d, e, f, g, h] 3 = d := rfl
    have g4 : gt [a, b, c, d, e, f, g, h] 4 = e := rfl
    have g5 : gt [a, b, c, d, e, f, g, h] 5 = f := rfl
    have g6 : gt [a, b, c, d, e, f, g, h] 6 = g := rfl
    have g7 : gt [a, b, c, d, e, f, g, h] 7 = h := rfl
    have hc : cpy [a, b, c, d, e, f, g, h] 1 0 7 = [a, a, b, c, d, e, f, g] := rfl
    have hs0 : ∀ v, st [a, a, b, c, d, e, f, g] 0 v = [v, a, b, c, d, e, f, g] := fun v => rfl
    have hg4 : ∀ v, gt [v, a, b, c, d, e, f, g] 4 = d := fun v => rfl
    have hs4 : ∀ v u, st [v, a, b, c, d, e, f, g] 4 u = [v, a, b, c, u, e, f, g] := fun v u => rfl
    obtain ⟨r, h1, h2, h3, h4⟩ := ih (i + 1) k k' (by omega) (by omega) (by omega) (by omega) (x := [wu32 (wu32 (wu32 (wu32 (wu32 (h + bXor .u32 (bXor .u32 r6 r11) r25) + bXor .u32 (bAnd .u32 e f) (bAnd .u32 (wu32 (4294967295 - e)) g)) + gt K i) + gt ws i) + wu32 (bXor .u32 (bXor .u32 r2 r13) r22 + bXor .u32 (bXor .u32 (bAnd .u32 a b) (bAnd .u32 a c)) (bAnd .u32 b c))), a, b, c,
      wu32 (d + wu32 (wu32 (wu32 (wu32 (h + bXor .u32 (bXor .u32 r6 r11) r25) + bXor .u32 (bAnd .u32 e f) (bAnd .u32 (wu32 (4294967295 - e)) g)) + gt K i) + gt ws i)), e, f, g]) rfl (by
        intro y hy
        simp only [List.mem_cons, List.not_mem_nil, or_false] at hy
        rcases hy with rfl | rfl | rfl | rfl | rfl | rfl | rfl | rfl <;> first | exact u32_wu32 _ | exact hu _ (by simp))
    refine ⟨r, ?_, ?_, h3, h4⟩
    · simp only [sha_mix.l0, hlt, if_true, gi, and_self, g0, g1, g2, g3, g4, g5, g6, g7, p1, p2, p3, p4, p5, p6, Option.bind_some, e1, hc, hs0, hg4, hs4, bNot_eq ue]
      exact h1
    · simp only [ref02_Of.l3, hlt, if_true, gi, and_self, g0, g1, g2, g3, g4, g5, g6, g7, q1, q2, q3, q4, q5, q6, Option.bind_some, e1]
      exact h2
theorem add_step (y : List Int) : ∀ (n : Nat) (i : Int) (k k' : Nat) (x : List Int), i = 8 - n → n ≤ 8 → n < k → n < k' → x.length = 8 → (∀ y ∈ x, u32 y) →
      ∃ r, sha_mix.l1 y k i x = some r ∧ ref02_Of.l4 y k' i x = some r ∧ r.length = 8 ∧ ∀ y ∈ r, u32 y := by
  intro n
  induction n with
  | zero =>
    intro i k k' x hi _ hk hk' hx hu
    obtain ⟨k, rfl⟩ : ∃ m, k = m + 1 := ⟨k - 1, by omega⟩
    obtain ⟨k', rfl⟩ : ∃ m, k' = m + 1 := ⟨k' - 1, by omega⟩
    have : decide (i < 8) = false := by simp; omega
    simp only [sha_mix.l1, ref02_Of.l4, this, Bool.false_eq_true, if_false]
    exact ⟨x, rfl, rfl, hx, hu⟩
  | succ n ih =>
    intro i k k' x hi hd hk hk' hx hu
    obtain ⟨k, rfl⟩ : ∃ m, k = m + 1 := ⟨k - 1, by omega⟩
    obtain ⟨k', rfl⟩ : ∃ m, k' = m + 1 := ⟨k' - 1, by omega⟩
    have hlt : decide (i < 8) = true := by simp; omega
    have e1 : wi64 (i + 1) = i + 1 := wi64_id (by omega)
    have gi : 0 ≤ i ∧ i < 8 := ⟨by omega, by omega⟩
    obtain ⟨r, h1, h2, h3, h4⟩ := ih (i + 1) k k' (st x i (wu32 (gt x i + gt y i))) (by omega) (by omega) (by omega) (by omega) (by rw [st_length, hx]) (st_all hu (u32_wu32 _))
    refine ⟨r, ?_, ?_, h3, h4⟩
    · simp only [sha_mix.l1, hlt, if_true, gi, and_self, e1]; exact h1
    · simp only [ref02_Of.l4, hlt, if_true, gi, and_self, e1]; exact h2
/-- One block, both ways. -/
theorem block_both (K : List Int) {blk p : ByteArray} {off : Int} {x : List Int} (hb : blk.size = 64) (ho : 0 ≤ off) (hp : off + 64 ≤ p.size) (hm : (p.size : Int) ≤ 4611686018427387904) (hbp : ∀ j : Int, 0 ≤ j → j < 64 → bt blk j = bt p (off + j))
    (hx : x.length = 8) (hu : ∀ y ∈ x, u32 y) : ∃ ws y r, ref02_Of.l1 off p FU 0 (List.replicate 64 (0 : Int)) = some ws ∧ ref02_Of.l3 K ws FU 0 x = some y ∧ ref02_Of.l4 y FU 0 x = some r ∧ sha_mix x K blk = some r ∧ r.length = 8 ∧ ∀ y ∈ r, u32 y := by
  obtain ⟨ws, h1, h2, _, _⟩ := words_both hb ho hp hm hbp
  obtain ⟨y, h3, h4, h5, h6⟩ := mix_step K ws 64 0 FU FU x (by omega) (by omega) (by simp [FU]) (by simp [FU]) hx hu
  obtain ⟨r, h7, h8, h9, h10⟩ := add_step y 8 0 FU FU x (by omega) (by omega) (by simp [FU]) (by simp [FU]) hx hu
  refine ⟨ws, y, r, h2, h4, h8, ?_, h9, h10⟩
  unfold sha_mix
  rw [h1]; simp only [Option.bind_some]; rw [h3]; simp only [Option.bind_some]; rw [h7]; rfl
/-! ### what is put behind a text -/
def zerosN (n : Nat) : Nat := (119 - n % 64) % 64
def be8 (n : Nat) : List Int := [n / 2 ^ 56 % 256, n / 2 ^ 48 % 256, n / 2 ^ 40 % 256, n / 2 ^ 32 % 256, n / 2 ^ 24 % 256, n / 2 ^ 16 % 256, n / 2 ^ 8 % 256, n % 256]
def padL (xs : List Int) : List Int := xs ++ [128] ++ List.replicate (zerosN xs.length) 0 ++ be8 (8 * xs.length)
theorem pad_l0 : ∀ (z k : Nat) (x : List Int), z < k → (x.length + z) % 64 = 56 → (∀ j, j < z → (x.length + j) % 64 ≠ 56) → x.length + z ≤ LIM → sha_Pad.l0 k x = some (x ++ List.replicate z 0) ∧ ref02_Pad.l0 k x = some (x ++ List.replicate z 0) := by
  intro z
  induction z with
  | zero =>
    intro k x hk h _ _
    obtain ⟨k, rfl⟩ : ∃ m, k = m + 1 := ⟨k - 1, by omega⟩
    have e : ((x.length : Int).tmod 64 != 56) = false := by
      rw [Int.tmod_eq_emod_of_nonneg (by omega)]
      have : (x.length : Int) % 64 = 56 := by omega
      rw [this]; rfl
    simp only [sha_Pad.l0, ref02_Pad.l0, e, Bool.false_eq_true, if_false, List.replicate_zero, List.append_nil, and_self]
  | succ z ih =>
    intro k x hk h hn hl
    obtain ⟨k, rfl⟩ : ∃ m, k = m + 1 := ⟨k - 1, by omega⟩
    have e : ((x.length : Int).tmod 64 != 56) = true := by
      rw [Int.tmod_eq_emod_of_nonneg (by omega)]
      have := hn 0 (by omega)
      simp only [bne_iff_ne, ne_eq]; omega
    have hg : x.length + ([0] : List Int).length ≤ LIM := by simp; omega
    have := ih k (x ++ [0]) (by omega) (by simp; omega) (fun j hj => by have := hn (j + 1) (by omega); simp; omega) (by simp; omega)
    simp only [sha_Pad.l0, ref02_Pad.l0, e, if_true, hg]
    rw [this.1, this.2]
    simp [List.replicate_succ]
theorem padN_facts (n : Nat) : zerosN n < 64 ∧ (n + 1 + zerosN n) % 64 = 56 ∧ ∀ j, j < zerosN n → (n + 1 + j) % 64 ≠ 56 := by
  unfold zerosN; refine ⟨by omega, by omega, fun j hj => by omega⟩
end Go.Cen
