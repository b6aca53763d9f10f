/- SHA: the words of a block. -/
import Derived.Test.YthdoklobbcedcabHShaA
set_option linter.unusedVariables false
set_option linter.unusedSimpArgs false
namespace Go.Cen
theorem u32_0 : u32 0 := ⟨by decide, by decide⟩
def be4 (a b c d : Int) : Int := ((a * 256 + b) * 256 + c) * 256 + d
def u8 (x : Int) : Prop := 0 ≤ x ∧ x < 256
theorem be4_u32 {a b c d : Int} (ha : u8 a) (hb : u8 b) (hc : u8 c) (hd : u8 d) : u32 (be4 a b c d) := by
  obtain ⟨_, _⟩ := ha; obtain ⟨_, _⟩ := hb; obtain ⟨_, _⟩ := hc; obtain ⟨_, _⟩ := hd
  unfold be4; exact ⟨by omega, by omega⟩
theorem loads {a b c d : Int} (ha : u8 a) (hb : u8 b) (hc : u8 c) (hd : u8 d) :
    bOr .u32 (bOr .u32 (bOr .u32 (bShl .u32 (wu32 a) 24) (bShl .u32 (wu32 b) 16)) (bShl .u32 (wu32 c) 8)) (wu32 d) = be4 a b c d := by
  obtain ⟨a, rfl⟩ := Int.eq_ofNat_of_zero_le ha.1
  obtain ⟨b, rfl⟩ := Int.eq_ofNat_of_zero_le hb.1
  obtain ⟨c, rfl⟩ := Int.eq_ofNat_of_zero_le hc.1
  obtain ⟨d, rfl⟩ := Int.eq_ofNat_of_zero_le hd.1
  have h1 := ha.2; have h2 := hb.2; have h3 := hc.2; have h4 := hd.2
  have e1 : bShl .u32 (wu32 (a : Int)) 24 = ((a * 2 ^ 24 : Nat) : Int) := by
    have := bShl_u32 (x := wu32 (a : Int)) (n := 24) (by decide)
    have e : ((24 : Nat) : Int) = 24 := rfl
    rw [e] at this; rw [this, wu32_eq]; omega
  have e2 : bShl .u32 (wu32 (b : Int)) 16 = ((b * 2 ^ 16 : Nat) : Int) := by
    have := bShl_u32 (x := wu32 (b : Int)) (n := 16) (by decide)
    have e : ((16 : Nat) : Int) = 16 := rfl
    rw [e] at this; rw [this, wu32_eq]; omega
  have e3 : bShl .u32 (wu32 (c : Int)) 8 = ((c * 2 ^ 8 : Nat) : Int) := by
    have := bShl_u32 (x := wu32 (c : Int)) (n := 8) (by decide)
    have e : ((8 : Nat) : Int) = 8 := rfl
    rw [e] at this; rw [this, wu32_eq]; omega
  have e4 : wu32 (d : Int) = (d : Int) := by rw [wu32_eq]; omega
  have hb32 : (2 : Nat) ^ IntKind.bits .u32 = 4294967296 := rfl
  rw [e1, e2, e3, e4, bOr_nat (k := .u32) rfl _ _ (by rw [hb32]; omega) (by rw [hb32]; omega), or_add (by omega)]
  rw [show a * 2 ^ 24 + b * 2 ^ 16 = (a * 2 ^ 8 + b) * 2 ^ 16 by omega]
  rw [bOr_nat (k := .u32) rfl _ _ (by rw [hb32]; omega) (by rw [hb32]; omega), or_add (by omega)]
  rw [show (a * 2 ^ 8 + b) * 2 ^ 16 + c * 2 ^ 8 = (a * 2 ^ 16 + b * 2 ^ 8 + c) * 2 ^ 8 by omega]
  rw [bOr_nat (k := .u32) rfl _ _ (by rw [hb32]; omega) (by rw [hb32]; omega), or_add (by omega)]
  unfold be4; omega
theorem u8_bt (s : ByteArray) (j : Int) : u8 (bt s j) := by
  rw [bt_eq]
  exact gt_all (p := u8) (byts_isB s) ⟨by decide, by decide⟩ j
theorem ref_l2 {i off : Int} {p : ByteArray} {w : List Int} (hi : 0 ≤ i ∧ i < 16) (ho : 0 ≤ off) (hp : off + 64 ≤ p.size) (hm : (p.size : Int) ≤ 4611686018427387904) (hw : w.length = 64) (hz : gt w i = 0) :
    ref02_Of.l2 i off p FU 0 w = some (st w i (be4 (bt p (off + 4 * i)) (bt p (off + 4 * i + 1)) (bt p (off + 4 * i + 2)) (bt p (off + 4 * i + 3)))) := by
  obtain ⟨m, hF, _⟩ := FU_succ 5 (by omega)
  rw [hF]
  have b0 := u8_bt p (off + 4 * i)
  have b1 := u8_bt p (off + 4 * i + 1)
  have b2 := u8_bt p (off + 4 * i + 2)
  have b3 := u8_bt p (off + 4 * i + 3)
  obtain ⟨_, _⟩ := b0; obtain ⟨_, _⟩ := b1; obtain ⟨_, _⟩ := b2; obtain ⟨_, _⟩ := b3
  have q0 : wi64 (off + wi64 (4 * i)) = off + 4 * i := by rw [wi64_id (x := 4 * i) (by omega), wi64_id (by omega)]
  have q : ∀ t : Int, 0 ≤ t ∧ t < 4 → wi64 (off + 4 * i + t) = off + 4 * i + t := fun t ht => wi64_id (by omega)
  have qz : wi64 (off + 4 * i) = off + 4 * i := wi64_id (by omega)
  have gz : 0 ≤ off + 4 * i ∧ off + 4 * i < (p.size : Int) := by omega
  have g : ∀ v : Int, gt (st w i v) i = v := fun v => by rw [gt_st _ _ _ _ hi.1 hi.1 (by rw [hw]; omega), if_pos rfl]
  have w1 : wi64 (0 + 1) = 1 := by decide +kernel
  have w2 : wi64 (1 + 1) = 2 := by decide +kernel
  have w3 : wi64 (2 + 1) = 3 := by decide +kernel
  have w4 : wi64 (3 + 1) = 4 := by decide +kernel
  have d0 : decide ((0 : Int) < 4) = true := rfl
  have d1 : decide ((1 : Int) < 4) = true := rfl
  have d2 : decide ((2 : Int) < 4) = true := rfl
  have d3 : decide ((3 : Int) < 4) = true := rfl
  have d4 : decide ((4 : Int) < 4) = false := rfl
  have gi : 0 ≤ i ∧ i < 64 := ⟨hi.1, by omega⟩
  have gp : ∀ t : Int, 0 ≤ t ∧ t < 4 → (0 ≤ off + 4 * i + t ∧ off + 4 * i + t < (p.size : Int)) := fun t ht => by omega
  simp only [ref02_Of.l2, q0, q 0 (by omega), q 1 (by omega), q 2 (by omega), q 3 (by omega), w1, w2, w3, w4, d0, d1, d2, d3, d4, if_true, gi, and_self, gp 0 (by omega), gp 1 (by omega), gp 2 (by omega), gp 3 (by omega), g, st_st, hz, Bool.false_eq_true, if_false, Int.add_zero, qz, gz]
  congr 2
  simp only [wu32_eq, be4]
  omega
set_option maxHeartbeats 1000000 in
theorem words_step {blk p : ByteArray} {off : Int} (hb : blk.size = 64) (ho : 0 ≤ off) (hp : off + 64 ≤ p.size) (hm : (p.size : Int) ≤ 4611686018427387904) (hbp : ∀ j : Int, 0 ≤ j → j < 64 → bt blk j = bt p (off + j)) :
    ∀ (d : Nat) (i : Int) (k k' : Nat) (w : List Int), i = 64 - d → d ≤ 64 → d < k → d < k' → w.length = 64 → (∀ x ∈ w, u32 x) → (∀ j, i ≤ j → gt w j = 0) →
      ∃ ws, sha_words.l0 blk k i w = some ws ∧ ref02_Of.l1 off p k' i w = some ws ∧ ws.length = 64 ∧ ∀ x ∈ ws, u32 x := by
  intro d
  induction d with
  | zero =>
    intro i k k' w hi _ hk hk' hw hu hz
    obtain ⟨k, rfl⟩ : ∃ m, k = m + 1 := ⟨k - 1, by omega⟩
    obtain ⟨k', rfl⟩ : ∃ m, k' = m + 1 := ⟨k' - 1, by omega⟩
    have : decide (i < 64) = false := by simp; omega
    simp only [sha_words.l0, ref02_Of.l1, this, Bool.false_eq_true, if_false]
    exact ⟨w, rfl, rfl, hw, hu⟩
  | succ d ih =>
    intro i k k' w hi hd hk hk' hw hu hz
    obtain ⟨k, rfl⟩ : ∃ m, k = m + 1 := ⟨k - 1, by omega⟩
    obtain ⟨k', rfl⟩ : ∃ m, k' = m + 1 := ⟨k' - 1, by omega⟩
    have hlt : decide (i < 64) = true := by simp; omega
    have e1 : wi64 (i + 1) = i + 1 := wi64_id (by omega)
    have gi : 0 ≤ i ∧ i < 64 := ⟨by omega, by omega⟩
    have next : ∀ v, u32 v → ∃ ws, sha_words.l0 blk k (i + 1) (st w i v) = some ws ∧ ref02_Of.l1 off p k' (i + 1) (st w i v) = some ws ∧ ws.length = 64 ∧ ∀ x ∈ ws, u32 x := fun v hv =>
      ih (i + 1) k k' (st w i v) (by omega) (by omega) (by omega) (by omega) (by rw [st_length, hw]) (st_all hu hv) (fun j hj => by
        rw [gt_st _ _ _ _ (by omega) (by omega) (by rw [hw]; omega), if_neg (by omega)]
        exact hz j (by omega))
    by_cases h16 : i < 16
    · have h16' : decide (i < 16) = true := by simpa using h16
      have f0 : wi64 (4 * i) = 4 * i := wi64_id (by omega)
      have f1 : wi64 (4 * i + 1) = 4 * i + 1 := wi64_id (by omega)
      have f2 : wi64 (4 * i + 2) = 4 * i + 2 := wi64_id (by omega)
      have f3 : wi64 (4 * i + 3) = 4 * i + 3 := wi64_id (by omega)
      have hs : (blk.size : Int) = 64 := by omega
      have c0 : 0 ≤ 4 * i ∧ 4 * i < 64 := by omega
      have c1 : 0 ≤ 4 * i + 1 ∧ 4 * i + 1 < 64 := by omega
      have c2 : 0 ≤ 4 * i + 2 ∧ 4 * i + 2 < 64 := by omega
      have c3 : 0 ≤ 4 * i + 3 ∧ 4 * i + 3 < 64 := by omega
      have b0 := hbp (4 * i) (by omega) (by omega)
      have b1 := hbp (4 * i + 1) (by omega) (by omega)
      have b2 := hbp (4 * i + 2) (by omega) (by omega)
      have b3 := hbp (4 * i + 3) (by omega) (by omega)
      simp only [← Int.add_assoc] at b1 b2 b3
      obtain ⟨ws, h1, h2, h3, h4⟩ := next _ (be4_u32 (u8_bt p (off + 4 * i)) (u8_bt p (off + 4 * i + 1)) (u8_bt p (off + 4 * i + 2)) (u8_bt p (off + 4 * i + 3)))
      refine ⟨ws, ?_, ?_, h3, h4⟩
      · simp only [sha_words.l0, hlt, h16', if_true, f0, f1, f2, f3, hs, c0, c1, c2, c3, gi, and_self, Option.bind_some, e1, b0, b1, b2, b3]
        rw [loads (u8_bt _ _) (u8_bt _ _) (u8_bt _ _) (u8_bt _ _)]
        exact h1
      · simp only [ref02_Of.l1, hlt, h16', if_true, ref_l2 ⟨gi.1, h16⟩ ho hp hm hw (hz i (by omega)), Option.bind_some, e1]
        exact h2
    · have h16' : decide (i < 16) = false := by simpa using h16
      have f15 : wi64 (i - 15) = i - 15 := wi64_id (by omega)
      have f2 : wi64 (i - 2) = i - 2 := wi64_id (by omega)
      have f7 : wi64 (i - 7) = i - 7 := wi64_id (by omega)
      have f16 : wi64 (i - 16) = i - 16 := wi64_id (by omega)
      have c15 : 0 ≤ i - 15 ∧ i - 15 < 64 := by omega
      have c2 : 0 ≤ i - 2 ∧ i - 2 < 64 := by omega
      have c7 : 0 ≤ i - 7 ∧ i - 7 < 64 := by omega
      have c16 : 0 ≤ i - 16 ∧ i - 16 < 64 := by omega
      have u15 := gt_all hu u32_0 (i - 15)
      have u2 := gt_all hu u32_0 (i - 2)
      obtain ⟨a7, p1, q1, _⟩ := right_both u15 (n := 7) (by decide) (by decide)
      obtain ⟨a18, p2, q2, _⟩ := right_both u15 (n := 18) (by decide) (by decide)
      obtain ⟨a17, p3, q3, _⟩ := right_both u2 (n := 17) (by decide) (by decide)
      obtain ⟨a19, p4, q4, _⟩ := right_both u2 (n := 19) (by decide) (by decide)
      obtain ⟨s1, _⟩ := ref_shift u2 (n := 10) (by decide)
      obtain ⟨s2, _⟩ := ref_shift u15 (n := 3) (by decide)
      have k7 : ((7 : Nat) : Int) = 7 := rfl
      have k18 : ((18 : Nat) : Int) = 18 := rfl
      have k17 : ((17 : Nat) : Int) = 17 := rfl
      have k19 : ((19 : Nat) : Int) = 19 := rfl
      have k10 : ((10 : Nat) : Int) = 10 := rfl
      have k3 : ((3 : Nat) : Int) = 3 := rfl
      rw [k7] at p1 q1; rw [k18] at p2 q2; rw [k17] at p3 q3; rw [k19] at p4 q4; rw [k10] at s1; rw [k3] at s2
      generalize hx0 : bXor .u32 (bXor .u32 a7 a18) (bShr .u32 (gt w (i - 15)) 3) = X0
      generalize hx1 : bXor .u32 (bXor .u32 a17 a19) (bShr .u32 (gt w (i - 2)) 10) = X1
      obtain ⟨ws, h1, h2, h3, h4⟩ := next (wu32 (wu32 (wu32 (gt w (i - 16) + X0) + gt w (i - 7)) + X1)) (by rw [wu32_eq]; exact ⟨by omega, by omega⟩)
      refine ⟨ws, ?_, ?_, h3, h4⟩
      · simp only [sha_words.l0, hlt, h16', if_true, f15, f2, f7, f16, c15, c2, c7, c16, gi, and_self, p1, p2, p3, p4, Option.bind_some, e1, Bool.false_eq_true, if_false, hx0, hx1]
        exact h1
      · simp only [ref02_Of.l1, hlt, h16', if_true, f15, f2, f7, f16, c15, c2, c7, c16, gi, and_self, q1, q2, q3, q4, s1, s2, Option.bind_some, e1, Bool.false_eq_true, if_false, hx0, hx1]
        have : wu32 (wu32 (wu32 (X1 + gt w (i - 7)) + X0) + gt w (i - 16)) = wu32 (wu32 (wu32 (gt w (i - 16) + X0) + gt w (i - 7)) + X1) := by simp only [wu32_eq]; omega
        rw [this]
        exact h2
theorem words_both {blk p : ByteArray} {off : Int} (hb : blk.size = 64) (ho : 0 ≤ off) (hp : off + 64 ≤ p.size) (hm : (p.size : Int) ≤ 4611686018427387904) (hbp : ∀ j : Int, 0 ≤ j → j < 64 → bt blk j = bt p (off + j)) :
    ∃ ws, sha_words blk = some ws ∧ ref02_Of.l1 off p FU 0 (List.replicate 64 (0 : Int)) = some ws ∧ ws.length = 64 ∧ ∀ x ∈ ws, u32 x := by
  obtain ⟨ws, h1, h2, h3, h4⟩ := words_step hb ho hp hm hbp 64 0 FU FU (List.replicate 64 (0 : Int)) (by omega) (by omega) (by simp [FU]) (by simp [FU]) (by simp) (fun x hx => by rw [List.eq_of_mem_replicate hx]; exact u32_0)
    (fun j _ => gt_all (p := fun x => x = 0) (fun x hx => List.eq_of_mem_replicate hx) rfl j)
  exact ⟨ws, by unfold sha_words; rw [h1]; rfl, h2, h3, h4⟩
end Go.Cen
