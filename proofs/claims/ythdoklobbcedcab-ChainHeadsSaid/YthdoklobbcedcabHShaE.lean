/- SHA: the digest of any text, both ways; a digest's digits. -/
import Derived.Test.YthdoklobbcedcabHShaD
set_option linter.unusedVariables false
set_option linter.unusedSimpArgs false
set_option maxRecDepth 100000
namespace Go.Cen
theorem gt_sub (xs : List Int) {a b j : Int} (ha : 0 ≤ a) (hj : 0 ≤ j) (hb : a + j < b) : gt (sub xs a b) j = gt xs (a + j) := by
  simp only [gt, sub, List.getD_eq_getElem?_getD, List.getElem?_take, List.getElem?_drop]
  rw [if_pos (by omega), show a.toNat + j.toNat = (a + j).toNat by omega]
theorem size_sx (s : ByteArray) {a b : Int} (h : 0 ≤ a ∧ a ≤ b ∧ b ≤ (s.size : Int)) : ((sx s a b).size : Int) = b - a := by
  have := congrArg List.length (sx_byts s h)
  rw [byts_length, sub_length (byts s) (by rw [byts_length]; exact h)] at this
  omega
theorem of_step (K : List Int) {p : ByteArray} (hm : (p.size : Int) ≤ 4611686018427387904 - 64) : ∀ (n : Nat) (off : Int) (q : ByteArray) (k k' : Nat) (x : List Int), 0 ≤ off → (p.size : Int) = off + 64 * n → byts q = sub (byts p) off p.size → n < k → n < k' → x.length = 8 → (∀ y ∈ x, u32 y) →
    ∃ r, sha_Of.l0 K k q x = some r ∧ ref02_Of.l0 p K k' off x = some r ∧ r.length = 8 ∧ ∀ y ∈ r, u32 y := by
  intro n
  induction n with
  | zero =>
    intro off q k k' x h0 hp hq hk hk' hx hu
    obtain ⟨k, rfl⟩ : ∃ m, k = m + 1 := ⟨k - 1, by omega⟩
    obtain ⟨k', rfl⟩ : ∃ m, k' = m + 1 := ⟨k' - 1, by omega⟩
    have hl := congrArg List.length hq
    rw [byts_length, sub_length (byts p) (by rw [byts_length]; omega)] at hl
    have d1 : decide ((q.size : Int) > 0) = false := decide_eq_false (by omega)
    have d2 : decide (off < (p.size : Int)) = false := by simp; omega
    simp only [sha_Of.l0, ref02_Of.l0, d1, d2, Bool.false_eq_true, if_false]
    exact ⟨x, rfl, rfl, hx, hu⟩
  | succ n ih =>
    intro off q k k' x h0 hp hq hk hk' hx hu
    obtain ⟨k, rfl⟩ : ∃ m, k = m + 1 := ⟨k - 1, by omega⟩
    obtain ⟨k', rfl⟩ : ∃ m, k' = m + 1 := ⟨k' - 1, by omega⟩
    have hl := congrArg List.length hq
    rw [byts_length, sub_length (byts p) (by rw [byts_length]; omega)] at hl
    have hqs : (q.size : Int) = p.size - off := by omega
    have d1 : decide ((q.size : Int) > 0) = true := decide_eq_true (by omega)
    have d2 : decide (off < (p.size : Int)) = true := by simp; omega
    have g1 : (0 : Int) ≤ 0 ∧ (0 : Int) ≤ 64 ∧ (64 : Int) ≤ (q.size : Int) := ⟨by omega, by omega, by omega⟩
    have g2 : (0 : Int) ≤ 64 ∧ (64 : Int) ≤ (q.size : Int) ∧ (q.size : Int) ≤ (q.size : Int) := ⟨by omega, by omega, by omega⟩
    have hblk := sx_byts q g1
    have hblks := size_sx q g1
    have hrest := sx_byts q g2
    obtain ⟨ws, y, r1, w1, w2, w3, w4, w5, w6⟩ := block_both K (blk := sx q 0 64) (p := p) (off := off) (x := x) (by omega) h0 (by omega) (by omega) (fun j j0 j1 => by
      rw [bt_eq, bt_eq, hblk, gt_sub _ (by omega) j0 (by omega), hq, gt_sub _ h0 (by omega) (by omega)]
      simp) hx hu
    have e1 : wi64 (off + 64) = off + 64 := wi64_id (by omega)
    obtain ⟨r, h1, h2, h3, h4⟩ := ih (off + 64) (sx q 64 q.size) k k' r1 (by omega) (by omega) (by
      rw [hrest, hq]
      simp only [sub, List.drop_take, List.drop_drop, List.take_take]
      rw [show off.toNat + (64 : Int).toNat = (off + 64).toNat by omega]
      congr 1
      omega) (by omega) (by omega) w5 w6
    refine ⟨r, ?_, ?_, h3, h4⟩
    · simp only [sha_Of.l0, d1, if_true, g1, g2, and_self, w4, Option.bind_some]
      exact h1
    · simp only [ref02_Of.l0, d2, if_true, w1, w2, w3, Option.bind_some, e1]
      exact h2
theorem ref_l6 : ∀ (n : Nat) (v : Nat) (i : Int) (k : Nat), i = 3 - n → n ≤ 3 → n < k → v < 4294967296 → ref02_Of.l6 k (v : Int) i = some ((v / 256 ^ n : Nat) : Int) := by
  intro n
  induction n with
  | zero =>
    intro v i k hi _ hk hv
    obtain ⟨k, rfl⟩ : ∃ m, k = m + 1 := ⟨k - 1, by omega⟩
    have d : decide (i < 3) = false := by simp; omega
    simp [ref02_Of.l6, d]
  | succ n ih =>
    intro v i k hi hn hk hv
    obtain ⟨k, rfl⟩ : ∃ m, k = m + 1 := ⟨k - 1, by omega⟩
    have d : decide (i < 3) = true := by simp; omega
    have e1 : wi64 (i + 1) = i + 1 := wi64_id (by omega)
    have e2 : wu32 ((v : Int).tdiv 256) = ((v / 256 : Nat) : Int) := by rw [Int.tdiv_eq_ediv_of_nonneg (by omega), wu32_eq]; omega
    simp only [ref02_Of.l6, d, if_true, e1, e2]
    rw [ih (v / 256) (i + 1) k (by omega) (by omega) (by omega) (by omega), Nat.div_div_eq_div_mul, ← Nat.pow_succ']
theorem out_step {h : List Int} (hu : ∀ y ∈ h, u32 y) : ∀ (n : Nat) (i : Int) (k k' : Nat) (x : List Int), i = 32 - n → n ≤ 32 → n < k → n < k' → x.length = 32 → isB x →
    ∃ r, sha_Of.l1 h k i x = some r ∧ ref02_Of.l5 h k' i x = some r ∧ r.length = 32 ∧ isB r := by
  intro n
  induction n with
  | zero =>
    intro i k k' x hi _ hk hk' hx hb
    obtain ⟨k, rfl⟩ : ∃ m, k = m + 1 := ⟨k - 1, by omega⟩
    obtain ⟨k', rfl⟩ : ∃ m, k' = m + 1 := ⟨k' - 1, by omega⟩
    have : decide (i < 32) = false := by simp; omega
    simp only [sha_Of.l1, ref02_Of.l5, this, Bool.false_eq_true, if_false]
    exact ⟨x, rfl, rfl, hx, hb⟩
  | succ n ih =>
    intro i k k' x hi hd hk hk' hx hb
    obtain ⟨k, rfl⟩ : ∃ m, k = m + 1 := ⟨k - 1, by omega⟩
    obtain ⟨k', rfl⟩ : ∃ m, k' = m + 1 := ⟨k' - 1, by omega⟩
    have hlt : decide (i < 32) = true := by simp; omega
    have e1 : wi64 (i + 1) = i + 1 := wi64_id (by omega)
    have gi : 0 ≤ i ∧ i < 32 := ⟨by omega, by omega⟩
    have q1 : wi64 (i.tdiv 4) = i / 4 := by rw [Int.tdiv_eq_ediv_of_nonneg gi.1, wi64_id (by omega)]
    have q2 : i.tmod 4 = i % 4 := Int.tmod_eq_emod_of_nonneg gi.1
    have gq : 0 ≤ i / 4 ∧ i / 4 < 8 := by omega
    have q3 : wi64 (8 * (i % 4)) = 8 * (i % 4) := wi64_id (by omega)
    have q4 : wi64 (24 - 8 * (i % 4)) = 24 - 8 * (i % 4) := wi64_id (by omega)
    have gs : 0 ≤ 24 - 8 * (i % 4) := by omega
    have hg := gt_all hu u32_0 (i / 4)
    obtain ⟨v, hv⟩ := Int.eq_ofNat_of_zero_le hg.1
    have hvl : v < 4294967296 := by have := hg.2; omega
    obtain ⟨t, ht, ht3⟩ : ∃ t : Nat, i % 4 = 3 - (t : Int) ∧ t ≤ 3 := ⟨(3 - i % 4).toNat, by omega, by omega⟩
    have hs : wu8 (bShr .u32 (gt h (i / 4)) (24 - 8 * (i % 4))) = ((v / 256 ^ t % 256 : Nat) : Int) := by
      have := bShr_eq (k := .u32) (x := (v : Int)) (n := 8 * t) (by show 8 * t ≤ 32; omega)
      rw [show ((8 * t : Nat) : Int) = 24 - 8 * (i % 4) by omega] at this
      rw [hv, this, wu8_eq, Int.natCast_emod, Int.natCast_ediv, Int.natCast_pow]
      rw [show (2 : Int) ^ (8 * t) = (256 : Int) ^ t by rw [Int.pow_mul]; rfl]
      rfl
    have hr := ref_l6 t v (i % 4) FU (by omega) ht3 (by simp [FU]; omega) hvl
    have hmod : wu8 (((v / 256 ^ t : Nat) : Int).tmod 256) = ((v / 256 ^ t % 256 : Nat) : Int) := by
      generalize v / 256 ^ t = z
      rw [Int.tmod_eq_emod_of_nonneg (by omega), wu8_eq]; omega
    have hbv : 0 ≤ ((v / 256 ^ t % 256 : Nat) : Int) ∧ ((v / 256 ^ t % 256 : Nat) : Int) < 256 := by
      generalize v / 256 ^ t = z
      omega
    obtain ⟨r, h1, h2, h3, h4⟩ := ih (i + 1) k k' (st x i ((v / 256 ^ t % 256 : Nat) : Int)) (by omega) (by omega) (by omega) (by omega) (by rw [st_length, hx]) (st_all hb hbv)
    refine ⟨r, ?_, ?_, h3, h4⟩
    · simp only [sha_Of.l1, hlt, if_true, q1, q2, gq, and_self, q3, q4, gs, gi, e1, hs]; exact h1
    · simp only [ref02_Of.l5, hlt, if_true, q1, q2, gq, and_self, gi, e1, hv, hr, Option.bind_some, hmod]; exact h2
def K8 : List Int := [1779033703, 3144134277, 1013904242, 2773480762, 1359893119, 2600822924, 528734635, 1541459225]
def K64 : List Int := ref02_cubes.getD []
theorem roots_eq : ref02_roots = some K8 := rfl
theorem cubes_eq : ref02_cubes = some K64 := rfl
set_option maxRecDepth 1000000 in
theorem constants_eq : sha_constants = some (K8, K64) := by decide +kernel
/-- THE DIGEST OF ANY TEXT: both alike. -/
theorem of_both {a : ByteArray} (ha : a.size ≤ 1000000000000) : ∃ d, sha_Of a = some d ∧ ref02_Of a = some d ∧ d.length = 32 ∧ isB d := by
  obtain ⟨hp, hp'⟩ := pad_both ha
  have hB := padL_isB (byts_isB a)
  have hsz : (strOfNums (padL (byts a))).size = (padL (byts a)).length := strOfNums_size _
  have hlen := padL_length (byts a)
  have hb := byts_length a
  have hz := (padN_facts (byts a).length).1
  have hmod := padL_mod (byts a)
  obtain ⟨r, h1, h2, h3, h4⟩ := of_step K64 (p := strOfNums (padL (byts a))) (by rw [hsz]; omega) ((padL (byts a)).length / 64) 0 (strOfNums (padL (byts a))) FU FU K8 (by omega) (by rw [hsz]; omega)
    (by rw [hsz, byts_strOfNums hB]; simp [sub]) (by simp [FU]; omega) (by simp [FU]; omega) rfl (by intro y hy; simp only [K8, List.mem_cons, List.not_mem_nil, or_false] at hy; rcases hy with rfl | rfl | rfl | rfl | rfl | rfl | rfl | rfl <;> exact ⟨by decide, by decide⟩)
  obtain ⟨d, d1, d2, d3, d4⟩ := out_step h4 32 0 FU FU (List.replicate 32 (0 : Int)) (by omega) (by omega) (by simp [FU]) (by simp [FU]) (by simp) (fun x hx => by rw [List.eq_of_mem_replicate hx]; omega)
  refine ⟨d, ?_, ?_, d3, d4⟩
  · unfold sha_Of
    rw [constants_eq]; simp only [Option.bind_some]
    rw [hp]; simp only [Option.bind_some]
    rw [h1]; simp only [Option.bind_some]
    rw [d1]; rfl
  · unfold ref02_Of
    rw [roots_eq, cubes_eq]; simp only [Option.bind_some]
    rw [hp']; simp only [Option.bind_some]
    rw [h2]; simp only [Option.bind_some]
    rw [d2]; rfl
end Go.Cen
