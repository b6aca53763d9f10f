/- SHA: what is put behind a text; the digest of any text. -/
import Derived.Test.YtlojedndicppeaaDoorBWireA
import Derived.Test.YtlojedndicppeaaDoorCenPl
set_option linter.unusedVariables false
set_option linter.unusedSimpArgs false
namespace Go.Cen
theorem padL_length (xs : List Int) : (padL xs).length = xs.length + 1 + zerosN xs.length + 8 := by simp [padL, be8]; omega
theorem padL_mod (xs : List Int) : (padL xs).length % 64 = 0 := by
  have := (padN_facts xs.length).2.1
  rw [padL_length]; omega
theorem be8_isB (n : Nat) : isB (be8 n) := by
  intro x hx
  simp only [be8, List.mem_cons, List.not_mem_nil, or_false] at hx
  rcases hx with rfl | rfl | rfl | rfl | rfl | rfl | rfl | rfl <;> omega
theorem padL_isB {xs : List Int} (h : isB xs) : isB (padL xs) := by
  intro x hx
  simp only [padL, List.mem_append, List.mem_cons, List.not_mem_nil, or_false] at hx
  rcases hx with ((hx | rfl) | hx) | hx
  · exact h x hx
  · omega
  · rw [List.eq_of_mem_replicate hx]; omega
  · exact be8_isB _ x hx
theorem sha_l1 {a : ByteArray} (ha : a.size ≤ 1000000000000) {x : List Int} (hx : x.length ≤ 1000000000100) : sha_Pad.l1 a FU x 7 = some (x ++ be8 (8 * a.size)) := by
  obtain ⟨m, hF, _⟩ := FU_succ 9 (by omega)
  rw [hF]
  have hs : wu64 (a.size : Int) = (a.size : Int) := by rw [wu64_eq]; omega
  have h3 : bShl .u64 (a.size : Int) 3 = ((8 * a.size : Nat) : Int) := by
    simp [bShl, IntKind.bits, IntKind.wrap, IntKind.signed]; omega
  have sh : ∀ (v : Int) (i : Nat), i ≤ 64 → wu8 (bShr .u64 v (i : Int)) = v / 2 ^ i % 256 := fun v i hi => by rw [bShr_eq (by show i ≤ 64; omega), wu8_eq]
  have d7 : wi64 (7 - 1) = 6 := by decide +kernel
  have d6 : wi64 (6 - 1) = 5 := by decide +kernel
  have d5 : wi64 (5 - 1) = 4 := by decide +kernel
  have d4 : wi64 (4 - 1) = 3 := by decide +kernel
  have d3 : wi64 (3 - 1) = 2 := by decide +kernel
  have d2 : wi64 (2 - 1) = 1 := by decide +kernel
  have d1 : wi64 (1 - 1) = 0 := by decide +kernel
  have d0 : wi64 (0 - 1) = -1 := by decide +kernel
  have m7 : wi64 (8 * 7) = 56 := by decide +kernel
  have m6 : wi64 (8 * 6) = 48 := by decide +kernel
  have m5 : wi64 (8 * 5) = 40 := by decide +kernel
  have m4 : wi64 (8 * 4) = 32 := by decide +kernel
  have m3 : wi64 (8 * 3) = 24 := by decide +kernel
  have m2 : wi64 (8 * 2) = 16 := by decide +kernel
  have m1 : wi64 (8 * 1) = 8 := by decide +kernel
  have m0 : wi64 (8 * 0) = 0 := by decide +kernel
  have hl : ∀ ys : List Int, ys.length ≤ 8 → ∀ v : Int, (x ++ ys).length + ([v] : List Int).length ≤ LIM := fun ys hy v => by simp [LIM]; omega
  have hl0 : ∀ v : Int, x.length + ([v] : List Int).length ≤ LIM := fun v => by simp [LIM]; omega
  have c7 : decide ((7 : Int) ≥ 0) = true := rfl
  have c6 : decide ((6 : Int) ≥ 0) = true := rfl
  have c5 : decide ((5 : Int) ≥ 0) = true := rfl
  have c4 : decide ((4 : Int) ≥ 0) = true := rfl
  have c3 : decide ((3 : Int) ≥ 0) = true := rfl
  have c2 : decide ((2 : Int) ≥ 0) = true := rfl
  have c1 : decide ((1 : Int) ≥ 0) = true := rfl
  have c0 : decide ((0 : Int) ≥ 0) = true := rfl
  have c_ : decide ((-1 : Int) ≥ 0) = false := rfl
  have z : ∀ n : Nat, (0 : Int) ≤ (n : Int) := fun n => by omega
  have z56 : (0 : Int) ≤ 56 := by decide
  have z48 : (0 : Int) ≤ 48 := by decide
  have z40 : (0 : Int) ≤ 40 := by decide
  have z32 : (0 : Int) ≤ 32 := by decide
  have z24 : (0 : Int) ≤ 24 := by decide
  have z16 : (0 : Int) ≤ 16 := by decide
  have z8 : (0 : Int) ≤ 8 := by decide
  simp only [sha_Pad.l1, c7, c6, c5, c4, c3, c2, c1, c0, c_, if_true, m7, m6, m5, m4, m3, m2, m1, m0, hs, h3, z56, z48, z40, z32, z24, z16, z8, Int.le_refl, d7, d6, d5, d4, d3, d2, d1, d0, Bool.false_eq_true, if_false, List.append_assoc, hl0,
    hl _ (by simp : ([_] : List Int).length ≤ 8)]
  simp only [List.cons_append, List.nil_append]
  repeat rw [if_pos (hl _ (by simp) _)]
  have k56 := sh (8 * (a.size : Int)) 56 (by omega)
  have k48 := sh (8 * (a.size : Int)) 48 (by omega)
  have k40 := sh (8 * (a.size : Int)) 40 (by omega)
  have k32 := sh (8 * (a.size : Int)) 32 (by omega)
  have k24 := sh (8 * (a.size : Int)) 24 (by omega)
  have k16 := sh (8 * (a.size : Int)) 16 (by omega)
  have k8 := sh (8 * (a.size : Int)) 8 (by omega)
  have k0 := sh (8 * (a.size : Int)) 0 (by omega)
  simp [be8]
  refine ⟨?_, ?_, ?_, ?_, ?_, ?_, ?_, ?_⟩
  · simpa using k56
  · simpa using k48
  · simpa using k40
  · simpa using k32
  · simpa using k24
  · simpa using k16
  · simpa using k8
  · simpa using k0
theorem ref_l1 {n : Nat} (hn : n ≤ 1000000000000) : ref02_Pad.l1 FU ((8 * n : Nat) : Int) [] 0 = some (be8 (8 * n)) := by
  obtain ⟨m, hF, _⟩ := FU_succ 9 (by omega)
  rw [hF]
  have step : ∀ (v : Nat) (ys : List Int) (i : Int) (k : Nat), v < 2 ^ 63 → ys.length ≤ 8 → 0 ≤ i → i < 8 → ref02_Pad.l1 (k + 1) (v : Int) ys i = ref02_Pad.l1 k ((v / 256 : Nat) : Int) (((v % 256 : Nat) : Int) :: ys) (i + 1) := by
    intro v ys i k hv hy h0 h8
    have d : decide (i < 8) = true := by simpa using h8
    have e1 : wi64 (i + 1) = i + 1 := wi64_id (by omega)
    have e2 : (v : Int).tmod 256 = ((v % 256 : Nat) : Int) := by rw [Int.tmod_eq_emod_of_nonneg (by omega)]; rfl
    have e3 : (v : Int).tdiv 256 = ((v / 256 : Nat) : Int) := by rw [Int.tdiv_eq_ediv_of_nonneg (by omega)]; rfl
    have e4 : wu8 ((v % 256 : Nat) : Int) = ((v % 256 : Nat) : Int) := by rw [wu8_eq]; omega
    have e5 : wu64 ((v / 256 : Nat) : Int) = ((v / 256 : Nat) : Int) := by rw [wu64_eq]; omega
    have hl : ([((v % 256 : Nat) : Int)] : List Int).length + ys.length ≤ LIM := by simp [LIM]; omega
    simp only [ref02_Pad.l1, d, if_true, e1, e2, e3, e4, e5, hl, List.cons_append, List.nil_append]
  have hv : 8 * n < 2 ^ 63 := by omega
  have r : ∀ v j : Nat, v / 256 ^ j / 256 = v / 256 ^ (j + 1) := fun v j => by rw [Nat.div_div_eq_div_mul, Nat.pow_succ]
  rw [step (8 * n) [] 0 _ hv (by simp) (by omega) (by omega)]
  rw [step (8 * n / 256) _ _ _ (by omega) (by simp) (by omega) (by omega)]
  rw [step (8 * n / 256 / 256) _ _ _ (by omega) (by simp) (by omega) (by omega)]
  rw [step (8 * n / 256 / 256 / 256) _ _ _ (by omega) (by simp) (by omega) (by omega)]
  rw [step (8 * n / 256 / 256 / 256 / 256) _ _ _ (by omega) (by simp) (by omega) (by omega)]
  rw [step (8 * n / 256 / 256 / 256 / 256 / 256) _ _ _ (by omega) (by simp) (by omega) (by omega)]
  rw [step (8 * n / 256 / 256 / 256 / 256 / 256 / 256) _ _ _ (by omega) (by simp) (by omega) (by omega)]
  rw [step (8 * n / 256 / 256 / 256 / 256 / 256 / 256 / 256) _ _ _ (by omega) (by simp) (by omega) (by omega)]
  simp only [ref02_Pad.l1, show decide ((0 : Int) + 1 + 1 + 1 + 1 + 1 + 1 + 1 + 1 < 8) = false from rfl, Bool.false_eq_true, if_false, be8]
  congr 1
  refine List.cons_eq_cons.2 ⟨by omega, List.cons_eq_cons.2 ⟨by omega, List.cons_eq_cons.2 ⟨by omega, List.cons_eq_cons.2 ⟨by omega, List.cons_eq_cons.2 ⟨by omega, List.cons_eq_cons.2 ⟨by omega, List.cons_eq_cons.2 ⟨by omega, List.cons_eq_cons.2 ⟨by omega, rfl⟩⟩⟩⟩⟩⟩⟩⟩
/-- WHAT IS PUT BEHIND A TEXT: both alike. -/
theorem pad_both {a : ByteArray} (ha : a.size ≤ 1000000000000) : sha_Pad a = some (strOfNums (padL (byts a))) ∧ ref02_Pad a = some (strOfNums (padL (byts a))) := by
  obtain ⟨p1, p2, p3⟩ := padN_facts (byts a).length
  have hb := byts_length a
  obtain ⟨h1, h2⟩ := pad_l0 (zerosN (byts a).length) FU (byts a ++ [128]) (by simp [FU]; omega) (by simp; omega) (fun j hj => by have := p3 j hj; simp; omega) (by simp [LIM]; omega)
  have g1 : a.size ≤ LIM := by simp [LIM]; omega
  have g2 : (byts a).length + ([128] : List Int).length ≤ LIM := by simp [LIM]; omega
  have hx : (byts a ++ [128] ++ List.replicate (zerosN (byts a).length) (0 : Int)).length ≤ 1000000000100 := by simp; omega
  constructor
  · unfold sha_Pad
    rw [if_pos g1, if_pos g2, h1]
    simp only [Option.bind_some]
    rw [sha_l1 ha hx]
    simp only [Option.bind_some, padL, hb]
  · unfold ref02_Pad
    have e : wu64 (wu64 (a.size : Int) * 8) = ((8 * a.size : Nat) : Int) := by rw [wu64_eq, wu64_eq]; omega
    rw [if_pos g1, if_pos g2, h2, e, ref_l1 ha]
    simp only [Option.bind_some]
    rw [if_pos (by simp only [be8, LIM, List.length_cons, List.length_nil]; omega)]
    simp only [padL, hb]
end Go.Cen

/- SHA: the digest of any text, both ways; a digest's digits. -/
set_option linter.unusedVariables false
set_option linter.unusedSimpArgs false
set_option maxRecDepth 100000
namespace Go.Cen
theorem gt_sub (xs : List Int) {a b j : Int} (ha : 0 ≤ a) (hj : 0 ≤ j) (hb : a + j < b) : gt (sub xs a b) j = gt xs (a + j) := by
  simp only [gt, sub, List.getD_eq_getElem?_getD, List.getElem?_take, List.getElem?_drop]
  rw [if_pos (by omega), show a.toNat + j.toNat = (a + j).toNat by omega]
theorem size_sx (s : ByteArray) {a b : Int} (h : 0 ≤ a ∧ a ≤ b ∧ b ≤ (s.size : Int)) : ((sx s a b).size : Int) = b - a := by
  have := congrArg List.length (sx_byts s h)
  rw [byts_length, sub_length (byts s) (by rw [byts_length]; exact h)] at this
  omega
theorem of_step (K : List Int) {p : ByteArray} (hm : (p.size : Int) ≤ 4611686018427387904 - 64) : ∀ (n : Nat) (off : Int) (q : ByteArray) (k k' : Nat) (x : List Int), 0 ≤ off → (p.size : Int) = off + 64 * n → byts q = sub (byts p) off p.size → n < k → n < k' → x.length = 8 → (∀ y ∈ x, u32 y) →
    ∃ r, sha_Of.l0 K k q x = some r ∧ ref02_Of.l0 p K k' off x = some r ∧ r.length = 8 ∧ ∀ y ∈ r, u32 y := by
  intro n
  induction n with
  | zero =>
    intro off q k k' x h0 hp hq hk hk' hx hu
    obtain ⟨k, rfl⟩ : ∃ m, k = m + 1 := ⟨k - 1, by omega⟩
    obtain ⟨k', rfl⟩ : ∃ m, k' = m + 1 := ⟨k' - 1, by omega⟩
    have hl := congrArg List.length hq
    rw [byts_length, sub_length (byts p) (by rw [byts_length]; omega)] at hl
    have d1 : decide ((q.size : Int) > 0) = false := decide_eq_false (by omega)
    have d2 : decide (off < (p.size : Int)) = false := by simp; omega
    simp only [sha_Of.l0, ref02_Of.l0, d1, d2, Bool.false_eq_true, if_false]
    exact ⟨x, rfl, rfl, hx, hu⟩
  | succ n ih =>
    intro off q k k' x h0 hp hq hk hk' hx hu
    obtain ⟨k, rfl⟩ : ∃ m, k = m + 1 := ⟨k - 1, by omega⟩
    obtain ⟨k', rfl⟩ : ∃ m, k' = m + 1 := ⟨k' - 1, by omega⟩
    have hl := congrArg List.length hq
    rw [byts_length, sub_length (byts p) (by rw [byts_length]; omega)] at hl
    have hqs : (q.size : Int) = p.size - off := by omega
    have d1 : decide ((q.size : Int) > 0) = true := decide_eq_true (by omega)
    have d2 : decide (off < (p.size : Int)) = true := by simp; omega
    have g1 : (0 : Int) ≤ 0 ∧ (0 : Int) ≤ 64 ∧ (64 : Int) ≤ (q.size : Int) := ⟨by omega, by omega, by omega⟩
    have g2 : (0 : Int) ≤ 64 ∧ (64 : Int) ≤ (q.size : Int) ∧ (q.size : Int) ≤ (q.size : Int) := ⟨by omega, by omega, by omega⟩
    have hblk := sx_byts q g1
    have hblks := size_sx q g1
    have hrest := sx_byts q g2
    obtain ⟨ws, y, r1, w1, w2, w3, w4, w5, w6⟩ := block_both K (blk := sx q 0 64) (p := p) (off := off) (x := x) (by omega) h0 (by omega) (by omega) (fun j j0 j1 => by
      rw [bt_eq, bt_eq, hblk, gt_sub _ (by omega) j0 (by omega), hq, gt_sub _ h0 (by omega) (by omega)]
      simp) hx hu
    have e1 : wi64 (off + 64) = off + 64 := wi64_id (by omega)
    obtain ⟨r, h1, h2, h3, h4⟩ := ih (off + 64) (sx q 64 q.size) k k' r1 (by omega) (by omega) (by
      rw [hrest, hq]
      simp only [sub, List.drop_take, List.drop_drop, List.take_take]
      rw [show off.toNat + (64 : Int).toNat = (off + 64).toNat by omega]
      congr 1
      omega) (by omega) (by omega) w5 w6
    refine ⟨r, ?_, ?_, h3, h4⟩
    · simp only [sha_Of.l0, d1, if_true, g1, g2, and_self, w4, Option.bind_some]
      exact h1
    · simp only [ref02_Of.l0, d2, if_true, w1, w2, w3, Option.bind_some, e1]
      exact h2
theorem ref_l6 : ∀ (n : Nat) (v : Nat) (i : Int) (k : Nat), i = 3 - n → n ≤ 3 → n < k → v < 4294967296 → ref02_Of.l6 k (v : Int) i = some ((v / 256 ^ n : Nat) : Int) := by
  intro n
  induction n with
  | zero =>
    intro v i k hi _ hk hv
    obtain ⟨k, rfl⟩ : ∃ m, k = m + 1 := ⟨k - 1, by omega⟩
    have d : decide (i < 3) = false := by simp; omega
    simp [ref02_Of.l6, d]
  | succ n ih =>
    intro v i k hi hn hk hv
    obtain ⟨k, rfl⟩ : ∃ m, k = m + 1 := ⟨k - 1, by omega⟩
    have d : decide (i < 3) = true := by simp; omega
    have e1 : wi64 (i + 1) = i + 1 := wi64_id (by omega)
    have e2 : wu32 ((v : Int).tdiv 256) = ((v / 256 : Nat) : Int) := by rw [Int.tdiv_eq_ediv_of_nonneg (by omega), wu32_eq]; omega
    simp only [ref02_Of.l6, d, if_true, e1, e2]
    rw [ih (v / 256) (i + 1) k (by omega) (by omega) (by omega) (by omega), Nat.div_div_eq_div_mul, ← Nat.pow_succ']
theorem out_step {h : List Int} (hu : ∀ y ∈ h, u32 y) : ∀ (n : Nat) (i : Int) (k k' : Nat) (x : List Int), i = 32 - n → n ≤ 32 → n < k → n < k' → x.length = 32 → isB x →
    ∃ r, sha_Of.l1 h k i x = some r ∧ ref02_Of.l5 h k' i x = some r ∧ r.length = 32 ∧ isB r := by
  intro n
  induction n with
  | zero =>
    intro i k k' x hi _ hk hk' hx hb
    obtain ⟨k, rfl⟩ : ∃ m, k = m + 1 := ⟨k - 1, by omega⟩
    obtain ⟨k', rfl⟩ : ∃ m, k' = m + 1 := ⟨k' - 1, by omega⟩
    have : decide (i < 32) = false := by simp; omega
    simp only [sha_Of.l1, ref02_Of.l5, this, Bool.false_eq_true, if_false]
    exact ⟨x, rfl, rfl, hx, hb⟩
  | succ n ih =>
    intro i k k' x hi hd hk hk' hx hb
    obtain ⟨k, rfl⟩ : ∃ m, k = m + 1 := ⟨k - 1, by omega⟩
    obtain ⟨k', rfl⟩ : ∃ m, k' = m + 1 := ⟨k' - 1, by omega⟩
    have hlt : decide (i < 32) = true := by simp; omega
    have e1 : wi64 (i + 1) = i + 1 := wi64_id (by omega)
    have gi : 0 ≤ i ∧ i < 32 := ⟨by omega, by omega⟩
    have q1 : wi64 (i.tdiv 4) = i / 4 := by rw [Int.tdiv_eq_ediv_of_nonneg gi.1, wi64_id (by omega)]
    have q2 : i.tmod 4 = i % 4 := Int.tmod_eq_emod_of_nonneg gi.1
    have gq : 0 ≤ i / 4 ∧ i / 4 < 8 := by omega
    have q3 : wi64 (8 * (i % 4)) = 8 * (i % 4) := wi64_id (by omega)
    have q4 : wi64 (24 - 8 * (i % 4)) = 24 - 8 * (i % 4) := wi64_id (by omega)
    have gs : 0 ≤ 24 - 8 * (i % 4) := by omega
    have hg := gt_all hu u32_0 (i / 4)
    obtain ⟨v, hv⟩ := Int.eq_ofNat_of_zero_le hg.1
    have hvl : v < 4294967296 := by have := hg.2; omega
    obtain ⟨t, ht, ht3⟩ : ∃ t : Nat, i % 4 = 3 - (t : Int) ∧ t ≤ 3 := ⟨(3 - i % 4).toNat, by omega, by omega⟩
    have hs : wu8 (bShr .u32 (gt h (i / 4)) (24 - 8 * (i % 4))) = ((v / 256 ^ t % 256 : Nat) : Int) := by
      have := bShr_eq (k := .u32) (x := (v : Int)) (n := 8 * t) (by show 8 * t ≤ 32; omega)
      rw [show ((8 * t : Nat) : Int) = 24 - 8 * (i % 4) by omega] at this
      rw [hv, this, wu8_eq, Int.natCast_emod, Int.natCast_ediv, Int.natCast_pow]
      rw [show (2 : Int) ^ (8 * t) = (256 : Int) ^ t by rw [Int.pow_mul]; rfl]
      rfl
    have hr := ref_l6 t v (i % 4) FU (by omega) ht3 (by simp [FU]; omega) hvl
    have hmod : wu8 (((v / 256 ^ t : Nat) : Int).tmod 256) = ((v / 256 ^ t % 256 : Nat) : Int) := by
      generalize v / 256 ^ t = z
      rw [Int.tmod_eq_emod_of_nonneg (by omega), wu8_eq]; omega
    have hbv : 0 ≤ ((v / 256 ^ t % 256 : Nat) : Int) ∧ ((v / 256 ^ t % 256 : Nat) : Int) < 256 := by
      generalize v / 256 ^ t = z
      omega
    obtain ⟨r, h1, h2, h3, h4⟩ := ih (i + 1) k k' (st x i ((v / 256 ^ t % 256 : Nat) : Int)) (by omega) (by omega) (by omega) (by omega) (by rw [st_length, hx]) (st_all hb hbv)
    refine ⟨r, ?_, ?_, h3, h4⟩
    · simp only [sha_Of.l1, hlt, if_true, q1, q2, gq, and_self, q3, q4, gs, gi, e1, hs]; exact h1
    · simp only [ref02_Of.l5, hlt, if_true, q1, q2, gq, and_self, gi, e1, hv, hr, Option.bind_some, hmod]; exact h2
def K8 : List Int := [1779033703, 3144134277, 1013904242, 2773480762, 1359893119, 2600822924, 528734635, 1541459225]
def K64 : List Int := ref02_cubes.getD []
theorem roots_eq : ref02_roots = some K8 := rfl
theorem cubes_eq : ref02_cubes = some K64 := rfl
set_option maxRecDepth 1000000 in
theorem constants_eq : sha_constants = some (K8, K64) := by decide +kernel
/-- THE DIGEST OF ANY TEXT: both alike. -/
theorem of_both {a : ByteArray} (ha : a.size ≤ 1000000000000) : ∃ d, sha_Of a = some d ∧ ref02_Of a = some d ∧ d.length = 32 ∧ isB d := by
  obtain ⟨hp, hp'⟩ := pad_both ha
  have hB := padL_isB (byts_isB a)
  have hsz : (strOfNums (padL (byts a))).size = (padL (byts a)).length := strOfNums_size _
  have hlen := padL_length (byts a)
  have hb := byts_length a
  have hz := (padN_facts (byts a).length).1
  have hmod := padL_mod (byts a)
  obtain ⟨r, h1, h2, h3, h4⟩ := of_step K64 (p := strOfNums (padL (byts a))) (by rw [hsz]; omega) ((padL (byts a)).length / 64) 0 (strOfNums (padL (byts a))) FU FU K8 (by omega) (by rw [hsz]; omega)
    (by rw [hsz, byts_strOfNums hB]; simp [sub]) (by simp [FU]; omega) (by simp [FU]; omega) rfl (by intro y hy; simp only [K8, List.mem_cons, List.not_mem_nil, or_false] at hy; rcases hy with rfl | rfl | rfl | rfl | rfl | rfl | rfl | rfl <;> exact ⟨by decide, by decide⟩)
  obtain ⟨d, d1, d2, d3, d4⟩ := out_step h4 32 0 FU FU (List.replicate 32 (0 : Int)) (by omega) (by omega) (by simp [FU]) (by simp [FU]) (by simp) (fun x hx => by rw [List.eq_of_mem_replicate hx]; omega)
  refine ⟨d, ?_, ?_, d3, d4⟩
  · unfold sha_Of
    rw [constants_eq]; simp only [Option.bind_some]
    rw [hp]; simp only [Option.bind_some]
    rw [h1]; simp only [Option.bind_some]
    rw [d1]; rfl
  · unfold ref02_Of
    rw [roots_eq, cubes_eq]; simp only [Option.bind_some]
    rw [hp']; simp only [Option.bind_some]
    rw [h2]; simp only [Option.bind_some]
    rw [d2]; rfl
end Go.Cen

/- SHA: a digest's digits; links. -/
set_option linter.unusedVariables false
set_option linter.unusedSimpArgs false
set_option maxRecDepth 100000
namespace Go.Cen
def HEX : ByteArray := ⟨#[48, 49, 50, 51, 52, 53, 54, 55, 56, 57, 97, 98, 99, 100, 101, 102]⟩
def hexL : List Int := [48, 49, 50, 51, 52, 53, 54, 55, 56, 57, 97, 98, 99, 100, 101, 102]
theorem byts_HEX : byts HEX = hexL := by decide +kernel
def hexs (q : Int) : Int := gt hexL q
def nib (q : Int) : Prop := 0 ≤ q ∧ q < 16
theorem nib_cases {q : Int} {p : Int → Prop} (h : nib q) (hp : ∀ n : Nat, n < 16 → p (n : Int)) : p q := by
  obtain ⟨n, rfl⟩ := Int.eq_ofNat_of_zero_le h.1
  exact hp n (by have := h.2; omega)
theorem hexs_sub {q : Int} (h : nib q) : sub hexL q (q + 1) = [hexs q] :=
  nib_cases (p := fun q => sub hexL q (q + 1) = [hexs q]) h (by decide +kernel)
def isHex (c : Int) : Prop := 48 ≤ c ∧ c ≤ 57 ∨ 97 ≤ c ∧ c ≤ 102
theorem hexs_hex {q : Int} (h : nib q) : isHex (hexs q) :=
  nib_cases (p := fun q => isHex (hexs q)) h (by unfold isHex; decide +kernel)
def textL (d : List Int) : List Int := d.flatMap fun x => [hexs (x / 16), hexs (x % 16)]
theorem textL_length (d : List Int) : (textL d).length = 2 * d.length := by
  induction d with
  | nil => rfl
  | cons x r ih => simp only [textL, List.flatMap_cons, List.length_append, List.length_cons, List.length_nil] at ih ⊢; omega
theorem nib_of {x : Int} (h : u8 x) : nib (x / 16) ∧ nib (x % 16) := by
  obtain ⟨_, _⟩ := h; exact ⟨⟨by omega, by omega⟩, ⟨by omega, by omega⟩⟩
theorem textL_hex {d : List Int} (h : isB d) : ∀ c ∈ textL d, isHex c := by
  intro c hc
  simp only [textL, List.mem_flatMap, List.mem_cons, List.not_mem_nil, or_false] at hc
  obtain ⟨x, hx, rfl | rfl⟩ := hc
  · exact hexs_hex (nib_of (h x hx)).1
  · exact hexs_hex (nib_of (h x hx)).2
theorem textL_isB {d : List Int} (h : isB d) : isB (textL d) := by
  intro c hc
  rcases textL_hex h c hc with h | h <;> omega
theorem drop_gt (d : List Int) {i : Int} (h0 : 0 ≤ i) (h : i < d.length) : d.drop i.toNat = gt d i :: d.drop (i + 1).toNat := by
  obtain ⟨hl, e⟩ := gt_lt d h0 h
  rw [e, List.drop_eq_getElem_cons hl, show (i + 1).toNat = i.toNat + 1 by omega]
theorem isB_gt {d : List Int} (h : isB d) (j : Int) : u8 (gt d j) := gt_all (p := u8) h ⟨by decide, by decide⟩ j
theorem text_step {d : List Int} (hd : d.length = 32) (hB : isB d) : ∀ (n : Nat) (i : Int) (k : Nat) (acc : List Int), i = 32 - n → n ≤ 32 → n < k → acc.length ≤ 64 - 2 * n → sha_Text.l0 d k acc i = some (acc ++ textL (d.drop i.toNat)) := by
  intro n
  induction n with
  | zero =>
    intro i k acc hi _ hk _
    obtain ⟨k, rfl⟩ : ∃ m, k = m + 1 := ⟨k - 1, by omega⟩
    have : decide (i < 32) = false := decide_eq_false (by omega)
    have e : d.drop i.toNat = [] := List.drop_of_length_le (by omega)
    simp [sha_Text.l0, this, e, textL]
  | succ n ih =>
    intro i k acc hi hn hk hl
    obtain ⟨k, rfl⟩ : ∃ m, k = m + 1 := ⟨k - 1, by omega⟩
    have hlt : decide (i < 32) = true := decide_eq_true (by omega)
    have e1 : wi64 (i + 1) = i + 1 := wi64_id (by omega)
    have gi : 0 ≤ i ∧ i < 32 := ⟨by omega, by omega⟩
    have hx := isB_gt hB i
    have hnb := nib_of hx
    have s1 : bShr .u8 (gt d i) 4 = gt d i / 16 := bShr_eq (k := .u8) (x := gt d i) (n := 4) (by decide)
    have s2 : bAnd .u8 (gt d i) 15 = gt d i % 16 := by
      obtain ⟨v, hv⟩ := Int.eq_ofNat_of_zero_le hx.1
      have hv2 := hx.2
      have := bAnd_nat (k := .u8) rfl v 15 (by show v < 256; omega) (by decide)
      have h15 : v &&& 15 = v % 16 := Nat.and_two_pow_sub_one_eq_mod v 4
      rw [hv]
      rw [h15] at this
      exact this
    have hsz : ((HEX.size : Nat) : Int) = 16 := rfl
    have g1 : 0 ≤ gt d i / 16 ∧ gt d i / 16 < 16 := hnb.1
    have g2 : 0 ≤ gt d i % 16 ∧ gt d i % 16 < 16 := hnb.2
    have gl : ∀ a b : Int, acc.length + ([a, b] : List Int).length ≤ LIM := fun a b => by simp [LIM]; omega
    have hr := ih (i + 1) k (acc ++ [hexs (gt d i / 16), hexs (gt d i % 16)]) (by omega) (by omega) (by omega) (by simp; omega)
    rw [drop_gt d gi.1 (by omega)]
    simp only [sha_Text.l0, hlt, if_true, gi, and_self, s1, s2, e1]
    change (if 0 ≤ gt d i / 16 ∧ gt d i / 16 < ((HEX.size : Nat) : Int) then (if 0 ≤ gt d i % 16 ∧ gt d i % 16 < ((HEX.size : Nat) : Int) then (if acc.length + ([bt HEX (gt d i / 16), bt HEX (gt d i % 16)] : List Int).length ≤ LIM then sha_Text.l0 d k (acc ++ [bt HEX (gt d i / 16), bt HEX (gt d i % 16)]) (i + 1) else none) else none) else none) = _
    rw [hsz, if_pos g1, if_pos g2, if_pos (gl _ _), bt_eq, bt_eq, byts_HEX]
    rw [show gt hexL (gt d i / 16) = hexs (gt d i / 16) from rfl, show gt hexL (gt d i % 16) = hexs (gt d i % 16) from rfl, hr]
    simp [textL]
theorem ref_text_step {d : List Int} (hd : d.length = 32) (hB : isB d) : ∀ (n : Nat) (i : Int) (k : Nat) (acc : ByteArray), i = 32 - n → n ≤ 32 → n < k → acc.size ≤ 64 - 2 * n → ∃ s, ref02_Text.l0 d k acc i = some s ∧ byts s = byts acc ++ textL (d.drop i.toNat) := by
  intro n
  induction n with
  | zero =>
    intro i k acc hi _ hk _
    obtain ⟨k, rfl⟩ : ∃ m, k = m + 1 := ⟨k - 1, by omega⟩
    have : decide (i < 32) = false := decide_eq_false (by omega)
    have e : d.drop i.toNat = [] := List.drop_of_length_le (by omega)
    exact ⟨acc, by simp [ref02_Text.l0, this], by simp [e, textL]⟩
  | succ n ih =>
    intro i k acc hi hn hk hl
    obtain ⟨k, rfl⟩ : ∃ m, k = m + 1 := ⟨k - 1, by omega⟩
    have hlt : decide (i < 32) = true := decide_eq_true (by omega)
    have e1 : wi64 (i + 1) = i + 1 := wi64_id (by omega)
    have gi : 0 ≤ i ∧ i < 32 := ⟨by omega, by omega⟩
    have hx := isB_gt hB i
    obtain ⟨hx0, hx1⟩ := hx
    have hnb := nib_of ⟨hx0, hx1⟩
    obtain ⟨⟨a1, a2⟩, ⟨b1, b2⟩⟩ := hnb
    have w0 : wi64 (gt d i) = gt d i := wi64_id (by omega)
    have q1 : (gt d i).tdiv 16 = gt d i / 16 := Int.tdiv_eq_ediv_of_nonneg hx0
    have q2 : (gt d i).tmod 16 = gt d i % 16 := Int.tmod_eq_emod_of_nonneg hx0
    have w1 : wi64 (gt d i / 16) = gt d i / 16 := wi64_id (by omega)
    have w2 : wi64 (gt d i / 16 + 1) = gt d i / 16 + 1 := wi64_id (by omega)
    have w3 : wi64 (gt d i % 16 + 1) = gt d i % 16 + 1 := wi64_id (by omega)
    have hsz : ((HEX.size : Nat) : Int) = 16 := rfl
    have g1 : (0 : Int) ≤ gt d i / 16 ∧ gt d i / 16 ≤ gt d i / 16 + 1 ∧ gt d i / 16 + 1 ≤ ((HEX.size : Nat) : Int) := by rw [hsz]; omega
    have g2 : (0 : Int) ≤ gt d i % 16 ∧ gt d i % 16 ≤ gt d i % 16 + 1 ∧ gt d i % 16 + 1 ≤ ((HEX.size : Nat) : Int) := by rw [hsz]; omega
    have z1 := size_sx HEX g1
    have z2 := size_sx HEX g2
    have y1 := sx_byts HEX g1
    have y2 := sx_byts HEX g2
    rw [byts_HEX, hexs_sub ⟨a1, a2⟩] at y1
    rw [byts_HEX, hexs_sub ⟨b1, b2⟩] at y2
    have k1 : acc.size + (sx HEX (gt d i / 16) (gt d i / 16 + 1)).size ≤ LIM := by simp [LIM]; omega
    have sa : (acc ++ sx HEX (gt d i / 16) (gt d i / 16 + 1)).size = acc.size + 1 := by rw [ByteArray.size_append]; omega
    have k2 : (acc ++ sx HEX (gt d i / 16) (gt d i / 16 + 1)).size + (sx HEX (gt d i % 16) (gt d i % 16 + 1)).size ≤ LIM := by rw [sa]; simp [LIM]; omega
    obtain ⟨s, h1, h2⟩ := ih (i + 1) k ((acc ++ sx HEX (gt d i / 16) (gt d i / 16 + 1)) ++ sx HEX (gt d i % 16) (gt d i % 16 + 1)) (by omega) (by omega) (by omega) (by rw [ByteArray.size_append, sa]; omega)
    refine ⟨s, ?_, ?_⟩
    · simp only [ref02_Text.l0, hlt, if_true, gi, and_self, w0, q1, q2, w1, w2, w3, e1]
      rw [show (⟨#[48, 49, 50, 51, 52, 53, 54, 55, 56, 57, 97, 98, 99, 100, 101, 102]⟩ : ByteArray) = HEX from rfl, if_pos g1, if_pos k1, if_pos g2, if_pos k2]
      exact h1
    · rw [h2, byts_append, byts_append, y1, y2, drop_gt d gi.1 (by omega)]
      simp [textL]
theorem text_both {d : List Int} (hd : d.length = 32) (hB : isB d) : sha_Text d = some (strOfNums (textL d)) ∧ ref02_Text d = some (strOfNums (textL d)) := by
  have h1 := text_step hd hB 32 0 FU [] (by omega) (by omega) (by simp [FU]) (by simp)
  obtain ⟨s, h2, h3⟩ := ref_text_step hd hB 32 0 FU (⟨#[]⟩ : ByteArray) (by omega) (by omega) (by simp [FU]) (by simp [ByteArray.size])
  constructor
  · unfold sha_Text; rw [h1]; simp
  · unfold ref02_Text; rw [h2]
    simp only [Option.bind_some]
    congr 1
    apply byts_inj
    rw [h3, byts_strOfNums (textL_isB hB)]
    simp [byts_nil]
theorem bytes_step {d : List Int} (hd : d.length = 32) : ∀ (n : Nat) (i : Int) (k : Nat) (acc : List Int), i = 32 - n → n ≤ 32 → n < k → acc.length ≤ 32 - n → ref02_Bytes.l0 d k acc i = some (acc ++ d.drop i.toNat) := by
  intro n
  induction n with
  | zero =>
    intro i k acc hi _ hk _
    obtain ⟨k, rfl⟩ : ∃ m, k = m + 1 := ⟨k - 1, by omega⟩
    have : decide (i < 32) = false := decide_eq_false (by omega)
    have e : d.drop i.toNat = [] := List.drop_of_length_le (by omega)
    simp [ref02_Bytes.l0, this, e]
  | succ n ih =>
    intro i k acc hi hn hk hl
    obtain ⟨k, rfl⟩ : ∃ m, k = m + 1 := ⟨k - 1, by omega⟩
    have hlt : decide (i < 32) = true := decide_eq_true (by omega)
    have e1 : wi64 (i + 1) = i + 1 := wi64_id (by omega)
    have gi : 0 ≤ i ∧ i < 32 := ⟨by omega, by omega⟩
    have gl : acc.length + ([gt d i] : List Int).length ≤ LIM := by simp [LIM]; omega
    rw [drop_gt d gi.1 (by omega)]
    simp only [ref02_Bytes.l0, hlt, if_true, gi, and_self, e1, gl]
    rw [ih (i + 1) k _ (by omega) (by omega) (by omega) (by simp; omega)]
    simp
theorem ref_bytes {d : List Int} (hd : d.length = 32) : ref02_Bytes d = some (strOfNums d) := by
  unfold ref02_Bytes
  rw [bytes_step hd 32 0 FU [] (by omega) (by omega) (by simp [FU]) (by simp)]
  simp
theorem link_both {d : List Int} (hd : d.length = 32) {a : ByteArray} (ha : a.size ≤ 900000000000) : ∃ e, sha_Link d a = some e ∧ ref02_Link d a = some e ∧ sha_Of (strOfNums d ++ a) = some e ∧ e.length = 32 ∧ isB e := by
  have hs : (strOfNums d).size = 32 := by rw [strOfNums_size, hd]
  obtain ⟨e, h1, h2, h3, h4⟩ := of_both (a := strOfNums d ++ a) (by rw [ByteArray.size_append, hs]; omega)
  have g : (strOfNums d).size + a.size ≤ LIM := by rw [hs]; simp [LIM]; omega
  refine ⟨e, ?_, ?_, h1, h3, h4⟩
  · unfold sha_Link; rw [if_pos g, h1]; rfl
  · unfold ref02_Link; rw [ref_bytes hd]; simp only [Option.bind_some]; rw [if_pos g, h2]; rfl
end Go.Cen

/- EVENT: bytes; the reference. -/
set_option linter.unusedVariables false
set_option linter.unusedSimpArgs false
namespace Go.Cen
def putE (e : ApiEvent) : List Int := numL (clampN e.Kind) ++ (partsE e).flatMap bytD
def putR (e : ApiEvent) : ByteArray × Bool := if validE e then (strOfNums (putE e), true) else (⟨#[]⟩, false)
theorem event_Put_eq {e : ApiEvent} (h : okE e) : event_Put e = some (putR e) := by
  have hp := parts_ok h
  have hl := parts_len e
  have hc := clampN_len e.Kind
  unfold event_Put putR
  rw [event_Valid_eq h]
  cases validE e with
  | false => rfl
  | true =>
    simp only [Option.bind_some, Bool.not_true, Bool.false_eq_true, if_false, wire_Num_eq, parts_eq, if_true]
    rw [put_l0 _ hp (by omega) _ (by omega)]
    rfl
theorem ref03_Valid_eq (s : ByteArray) (h : s.size ≤ 100000) : ref03_Valid s = some (nmOk s) := by
  have := ref03_Valid_str (l := byts s) (byts_isB s) (by rw [byts_len]; exact h)
  rwa [strOfNums_byts] at this
def tells5 (k : Int) : List Bool := if k = 0 ∨ k = 4 ∨ k = 5 then [true, true, false, false, false] else if k = 1 then [true, false, false, true, false] else if k = 2 then [true, false, true, true, true]
  else if k = 3 then [true, false, true, false, false] else if k = 6 then [true, false, false, false, false] else if k = 7 then [false, false, true, false, false] else [false, false, false, false, false]
theorem tells_eq (k : Int) : ref05_tells k = some (tells5 k) := by
  unfold ref05_tells tells5
  rcases kinds k with k | k | k | k | k | k | k | k | ⟨k0, k4, k5, k1, k2, k3, k6, k7⟩
  all_goals first
    | (subst k; rfl)
    | simp [k0, k1, k2, k3, k4, k5, k6, k7]
theorem gtB (a b c d e : Bool) : gt [a, b, c, d, e] 0 = a ∧ gt [a, b, c, d, e] 1 = b ∧ gt [a, b, c, d, e] 2 = c ∧ gt [a, b, c, d, e] 3 = d ∧ gt [a, b, c, d, e] 4 = e := ⟨rfl, rfl, rfl, rfl, rfl⟩
set_option maxHeartbeats 2000000 in
theorem ref05_Valid_eq {e : ApiEvent} (h : okE e) : ref05_Valid e = some (validE e) := by
  unfold ref05_Valid
  rw [tells_eq, ref03_Valid_eq _ h.1]
  rcases kinds e.Kind with k | k | k | k | k | k | k | k | ⟨k0, k4, k5, k1, k2, k3, k6, k7⟩
  case inr.inr.inr.inr.inr.inr.inr.inr =>
    have : (if decide (e.Kind < 0) = true then some true else some (decide (e.Kind > 7))) = some true := by
      by_cases q : e.Kind < 0
      · simp [q]
      · have : e.Kind > 7 := by omega
        simp [this]
    rw [this]
    simp [validE, k0, k1, k2, k3, k4, k5, k6, k7]
  all_goals
    have hz : eqA e.Sum ([0, 0, 0, 0, 0, 0, 0, 0, 0, 0, 0, 0, 0, 0, 0, 0, 0, 0, 0, 0, 0, 0, 0, 0, 0, 0, 0, 0, 0, 0, 0, 0] : List Int) = noD e.Sum := rfl
    simp [k, tells5, validE, (gtB _ _ _ _ _).1, (gtB _ _ _ _ _).2.1, (gtB _ _ _ _ _).2.2.1, (gtB _ _ _ _ _).2.2.2.1, (gtB _ _ _ _ _).2.2.2.2, hz]
    have r1 : ∀ a b x : Int, (if a ≤ x then if x ≤ b then some true else some false else some false) = some (decide (a ≤ x) && decide (x ≤ b)) := fun a b x => by
      by_cases q : a ≤ x <;> by_cases q' : x ≤ b <;> simp [q, q']
    have r2 : ∀ b : Bool, (if b = true then some true else some false) = some b := fun b => by cases b <;> rfl
    have e1 : seq e.Name (⟨#[]⟩ : ByteArray) = noS e.Name := rfl
    simp only [r1, r2, Option.bind_some, e1]
    have e2 : (decide (1 ≤ e.ID) && decide (e.ID ≤ 1099511627776)) = idOk e.ID := rfl
    have e3 : (decide (0 ≤ e.Time) && decide (e.Time ≤ 1099511627776)) = timeOk e.Time := rfl
    have e4 : (decide (0 ≤ e.Len) && decide (e.Len ≤ 600)) = lenOk 0 e.Len := rfl
    have e5 : (decide (1 ≤ e.Len) && decide (e.Len ≤ 600)) = lenOk 1 e.Len := rfl
    (try simp only [e2, e3, e4, e5])
    clear e2 e3 e4 e5 r1 r2 e1
    generalize lenOk 1 e.Len = b1
    generalize lenOk 0 e.Len = b0
    generalize timeOk e.Time = bt
    generalize idOk e.ID = bi
    generalize noS e.Name = bs
    generalize nmOk e.Name = bn
    by_cases hT : e.Time = 0 <;> by_cases hL : e.Len = 0 <;> by_cases hI : e.ID = 0
    all_goals
      cases bs <;> cases bi <;> simp [hT, hL, hI]
    all_goals
      cases bn <;> cases bt <;> cases b0 <;> cases b1 <;> (try simp)
theorem ref04_Text_eq (s : ByteArray) (h : s.size ≤ 100000) : ref04_Text s = some (strOfNums (numL (clampN (s.size : Int)) ++ byts s)) := by
  have hL := LIM_val
  have := clampN_len (s.size : Int)
  unfold ref04_Text
  rw [ref04_Num_eq]
  simp only [Option.bind_some, strOfNums_size]
  rw [if_pos (by omega)]
  congr 1
  rw [← strOfNums_append, strOfNums_byts]
theorem ref04_Sum_eq {d : List Int} (h : d.length = 32) : ref04_Sum d = some (strOfNums d) := by
  unfold ref04_Sum
  rw [ref_bytes h]; rfl
theorem ref05_Put_eq {e : ApiEvent} (h : okE e) : ref05_Put e = some (putR e) := by
  have hL := LIM_val
  have c0 := clampN_len e.Kind
  have c1 := clampN_len e.ID
  have c2 := clampN_len e.Time
  have c3 := clampN_len e.Len
  have c4 := clampN_len (e.Name.size : Int)
  have hn := h.1
  have h32 := h.2.1
  have hb := byts_len e.Name
  unfold ref05_Put putR
  rw [ref05_Valid_eq h]
  cases hv : validE e with
  | false => rfl
  | true =>
    simp only [Option.bind_some, Bool.not_true, Bool.false_eq_true, if_false, if_true, tells_eq, ref04_Num_eq, ref04_Text_eq _ h.1, ref04_Sum_eq h.2.1, putE]
    rcases kinds e.Kind with k | k | k | k | k | k | k | k | ⟨k0, k4, k5, k1, k2, k3, k6, k7⟩
    case inr.inr.inr.inr.inr.inr.inr.inr => simp [validE, k0, k1, k2, k3, k4, k5, k6, k7] at hv
    all_goals
      have hq : ∀ (xs ys : List Int), xs.length ≤ 1000 → ys.length ≤ 100100 → (strOfNums xs).size + (strOfNums ys).size ≤ LIM := fun xs ys h1 h2 => by rw [strOfNums_size, strOfNums_size]; omega
      rw [k] at c0
      simp only [k, tells5, partsE, (gtB _ _ _ _ _).1, (gtB _ _ _ _ _).2.1, (gtB _ _ _ _ _).2.2.1, (gtB _ _ _ _ _).2.2.2.1, (gtB _ _ _ _ _).2.2.2.2, if_true, Option.bind_some, Int.reduceEq, or_true, true_or, or_false, false_or, or_self, if_false, Bool.false_eq_true, reduceCtorEq]
      simp only [strOfNums_append, strOfNums_size, List.length_append, hb, h32]
      repeat (first | rw [if_pos (by omega)] | simp only [Option.bind_some, strOfNums_append, strOfNums_size, List.length_append, hb, h32])
      simp [bytD]
end Go.Cen

/- EVENT: bytes tell the event. -/
set_option linter.unusedVariables false
set_option linter.unusedSimpArgs false
namespace Go.Cen
theorem eq_event_iff (a b : ApiEvent) : eq_ApiEvent a b = true ↔ a = b := by
  cases a; cases b
  simp [eq_ApiEvent, seq_iff, eqA_iff]
theorem event_eta (a : ApiEvent) : eq_ApiEvent a a = true := (eq_event_iff a a).2 rfl
/-- what an event that may be is -/
theorem valid_form {e : ApiEvent} (h : okE e) (hv : validE e = true) : partsE e ≠ [] ∧ ofE e = e ∧ namedL (partsE e) true = true ∧ (e.Kind = 7 ∨ idOk e.ID = true) ∧ timeOk e.Time = true ∧ lenOk (leastE e) e.Len = true := by
  have h1 := event_Valid_raw h
  rw [event_Valid_eq h, hv] at h1
  have h2 := (someS h1).symm
  by_cases hk : partsE e = []
  · rw [if_pos hk] at h2; cases h2
  · rw [if_neg hk] at h2
    simp only [Bool.and_eq_true, Bool.or_eq_true, beq_iff_eq] at h2
    obtain ⟨a, b, c, d, f⟩ := h2
    exact ⟨hk, (eq_event_iff _ _).1 a, b, c, d, f⟩
theorem valid_kind {e : ApiEvent} (hv : validE e = true) : 0 ≤ e.Kind ∧ e.Kind ≤ 7 := by
  rcases kinds e.Kind with k | k | k | k | k | k | k | k | ⟨k0, k4, k5, k1, k2, k3, k6, k7⟩
  case inr.inr.inr.inr.inr.inr.inr.inr => simp [validE, k0, k1, k2, k3, k4, k5, k6, k7] at hv
  all_goals omega
theorem valid_nums {e : ApiEvent} (h : okE e) (hv : validE e = true) : (0 ≤ e.ID ∧ e.ID ≤ 1099511627776) ∧ (0 ≤ e.Time ∧ e.Time ≤ 1099511627776) ∧ (0 ≤ e.Len ∧ e.Len ≤ 600) := by
  obtain ⟨h1, h2, h3, h4, h5, h6⟩ := valid_form h hv
  simp only [timeOk, lenOk, Bool.and_eq_true, decide_eq_true_eq] at h5 h6
  have hl : leastE e = 0 ∨ leastE e = 1 := by unfold leastE; split <;> simp
  refine ⟨?_, h5, by omega⟩
  rcases h4 with h4 | h4
  · have : (ofE e).ID = 0 := by simp [ofE, h4]
    rw [h2] at this; omega
  · simp only [idOk, Bool.and_eq_true, decide_eq_true_eq] at h4; omega
theorem num_inj {a b : Int} {r s : List Int} (ha : 0 ≤ a ∧ a ≤ 1125899906842624) (hb : 0 ≤ b ∧ b ≤ 1125899906842624) (h : numL (clampN a) ++ r = numL (clampN b) ++ s) : a = b ∧ r = s := by
  obtain ⟨h1, h2⟩ := numL_inj (clampN_le a) (clampN_le b) h
  refine ⟨?_, h2⟩
  rw [← clampN_id ha.1 ha.2, ← clampN_id hb.1 hb.2, h1]
theorem text_inj {a b : ByteArray} {r s : List Int} (ha : a.size ≤ 100000) (hb : b.size ≤ 100000) (h : numL (clampN (a.size : Int)) ++ (byts a ++ r) = numL (clampN (b.size : Int)) ++ (byts b ++ s)) : a = b ∧ r = s := by
  obtain ⟨h1, h2⟩ := num_inj ⟨by omega, by omega⟩ ⟨by omega, by omega⟩ h
  obtain ⟨h3, h4⟩ := List.append_inj h2 (by rw [byts_len, byts_len]; omega)
  exact ⟨byts_inj h3, h4⟩
theorem putE_inj {a b : ApiEvent} (ha : okE a) (hb : okE b) (va : validE a = true) (vb : validE b = true) {r s : List Int} (h : putE a ++ r = putE b ++ s) : a = b ∧ r = s := by
  have ka := valid_kind va
  have kb := valid_kind vb
  obtain ⟨a1, a2, a3⟩ := valid_nums ha va
  obtain ⟨b1, b2, b3⟩ := valid_nums hb vb
  have oa := (valid_form ha va).2.1
  have ob := (valid_form hb vb).2.1
  have na := ha.1
  have nb := hb.1
  have sa := ha.2.1
  have sb := hb.2.1
  unfold putE at h
  rw [List.append_assoc, List.append_assoc] at h
  obtain ⟨hk, h⟩ := num_inj ⟨by omega, by omega⟩ ⟨by omega, by omega⟩ h
  have fin : ofE a = ofE b → r = s → a = b ∧ r = s := fun h1 h2 => ⟨by rw [← oa, ← ob, h1], h2⟩
  rcases kinds a.Kind with k | k | k | k | k | k | k | k | ⟨k0, k4, k5, k1, k2, k3, k6, k7⟩
  case inr.inr.inr.inr.inr.inr.inr.inr => omega
  all_goals
    have k' : b.Kind = _ := hk.symm.trans k
    simp only [partsE, k, k', Int.reduceEq, or_true, true_or, or_false, false_or, or_self, if_true, if_false, List.flatMap_cons, List.flatMap_nil, List.append_nil, bytD, List.append_assoc, reduceCtorEq] at h
  · obtain ⟨q1, h⟩ := num_inj ⟨by omega, by omega⟩ ⟨by omega, by omega⟩ h
    obtain ⟨q2, h⟩ := text_inj na nb h
    exact fin (by simp [ofE, k, k', q1, q2]) h
  · obtain ⟨q1, h⟩ := num_inj ⟨by omega, by omega⟩ ⟨by omega, by omega⟩ h
    obtain ⟨q2, h⟩ := text_inj na nb h
    exact fin (by simp [ofE, k, k', q1, q2]) h
  · obtain ⟨q1, h⟩ := num_inj ⟨by omega, by omega⟩ ⟨by omega, by omega⟩ h
    obtain ⟨q2, h⟩ := text_inj na nb h
    exact fin (by simp [ofE, k, k', q1, q2]) h
  · obtain ⟨q1, h⟩ := num_inj ⟨by omega, by omega⟩ ⟨by omega, by omega⟩ h
    obtain ⟨q2, h⟩ := num_inj ⟨by omega, by omega⟩ ⟨by omega, by omega⟩ h
    exact fin (by simp [ofE, k, k', q1, q2]) h
  · obtain ⟨q1, h⟩ := num_inj ⟨by omega, by omega⟩ ⟨by omega, by omega⟩ h
    obtain ⟨q2, h⟩ := num_inj ⟨by omega, by omega⟩ ⟨by omega, by omega⟩ h
    obtain ⟨q3, h⟩ := num_inj ⟨by omega, by omega⟩ ⟨by omega, by omega⟩ h
    obtain ⟨q4, h⟩ := List.append_inj h (by omega)
    exact fin (by simp [ofE, k, k', q1, q2, q3, q4]) h
  · obtain ⟨q1, h⟩ := num_inj ⟨by omega, by omega⟩ ⟨by omega, by omega⟩ h
    obtain ⟨q2, h⟩ := num_inj ⟨by omega, by omega⟩ ⟨by omega, by omega⟩ h
    exact fin (by simp [ofE, k, k', q1, q2]) h
  · obtain ⟨q1, h⟩ := num_inj ⟨by omega, by omega⟩ ⟨by omega, by omega⟩ h
    exact fin (by simp [ofE, k, k', q1]) h
  · obtain ⟨q1, h⟩ := num_inj ⟨by omega, by omega⟩ ⟨by omega, by omega⟩ h
    exact fin (by simp [ofE, k, k', q1]) h
end Go.Cen

/- ROOT: what is valid, and its bytes. -/
set_option linter.unusedVariables false
set_option linter.unusedSimpArgs false
namespace Go.Cen
/-- one row, as four numbers -/
structure Q where
  l : Int
  o : Int
  b : Int
  t : Int
  deriving DecidableEq
end Go.Cen

/- ROOT: its bytes, and the parts. -/
set_option linter.unusedVariables false
set_option linter.unusedSimpArgs false
namespace Go.Cen
/-- a number's bytes, clamped -/
def nm (a : Int) : List Int := numL (clampN a)
end Go.Cen

/- ROOT: numbers read out of bytes. -/
set_option linter.unusedVariables false
set_option linter.unusedSimpArgs false
namespace Go.Cen
theorem bOr_i64 (x y : Nat) (hx : x < 2 ^ 62) (hy : y < 2 ^ 62) : bOr .i64 (x : Int) (y : Int) = ((x ||| y : Nat) : Int) := by
  have h : x ||| y < 2 ^ 62 := Nat.or_lt_two_pow hx hy
  have hb : (2 : Nat) ^ IntKind.bits .i64 = 18446744073709551616 := rfl
  have e : (BitVec.ofInt (IntKind.bits .i64) (x : Int) ||| BitVec.ofInt (IntKind.bits .i64) (y : Int)).toNat = x ||| y := by
    simp only [BitVec.ofInt_natCast, BitVec.toNat_or, BitVec.toNat_ofNat]
    rw [hb, Nat.mod_eq_of_lt (by omega), Nat.mod_eq_of_lt (by omega)]
  rw [bOr, e]
  exact wi64_id (by omega)
theorem bShl_i64 (x n : Nat) (hn : n ≤ 64) (h : x * 2 ^ n < 2 ^ 62) : bShl .i64 (x : Int) (n : Int) = ((x * 2 ^ n : Nat) : Int) := by
  have hm : min n 64 = n := by omega
  have : bShl .i64 (x : Int) (n : Int) = wi64 ((x : Int) * 2 ^ (min n 64)) := rfl
  rw [this, hm]
  have e : (x : Int) * 2 ^ n = ((x * 2 ^ n : Nat) : Int) := by push_cast; rfl
  rw [e]
  exact wi64_id (by omega)
theorem bAnd127 (n : Nat) (h : n < 256) : bAnd .u8 (n : Int) 127 = ((n % 128 : Nat) : Int) := by
  have e3 := bAnd_nat (k := .u8) rfl n 127 (by show _ < 256; omega) (by show _ < 256; omega)
  refine e3.trans ?_
  have := Nat.and_two_pow_sub_one_eq_mod n 7
  rw [show (127 : Nat) = 2 ^ 7 - 1 from rfl, this]
/-- the number that bytes begin with, canonical or not -/
def rawN : Nat → List Int → Option (Nat × List Int)
  | 0, _ => none
  | _ + 1, [] => none
  | f + 1, b :: r => if b < 128 then some (b.toNat, r) else match rawN f r with
    | some (n, r') => some (b.toNat - 128 + 128 * n, r')
    | none => none
theorem decN_raw : ∀ (f : Nat) (l : List Int) (n : Nat) (r : List Int), decN f l = some (n, r) → rawN f l = some (n, r)
  | 0, l, n, r, h => by simp [decN] at h
  | f + 1, [], n, r, h => by simp [decN] at h
  | f + 1, b :: l, n, r, h => by
    simp only [decN] at h
    simp only [rawN]
    by_cases h1 : b < 128
    · rw [if_pos h1] at h ⊢; exact h
    · rw [if_neg h1] at h ⊢
      cases h2 : decN f l with
      | none => rw [h2] at h; cases h
      | some p =>
        rw [h2] at h
        rw [decN_raw f l p.1 p.2 h2]
        simp only at h ⊢
        split at h
        · cases h
        · exact h
/-- what a reading gives -/
def getR (l : List Int) : Int × List Int × Bool := match getN l with
  | some (n, r) => ((n : Int), r, true)
  | none => (0, [], false)
theorem getN_none {l : List Int} {n : Nat} {r : List Int} (hl : isB l) (hr : rawN 8 l = some (n, r)) (h : ¬ (n ≤ 1125899906842624 ∧ numL n ++ r = l)) : getN l = none := by
  cases e : getN l with
  | none => rfl
  | some p =>
    obtain ⟨e1, e2⟩ := getN_inv hl (n := p.1) (r := p.2) e
    have e3 : decN 8 l = some (p.1, p.2) := by
      unfold getN at e
      cases h2 : decN 8 l with
      | none => rw [h2] at e; cases e
      | some q =>
        rw [h2] at e
        simp only at e
        split at e
        · cases e; rfl
        · cases e
    have e4 := decN_raw _ _ _ _ e3
    rw [hr] at e4
    simp only [Option.some.injEq, Prod.mk.injEq] at e4
    exact absurd ⟨by omega, by rw [e4.1, e4.2]; exact e1.symm⟩ h
theorem getN_some {l : List Int} {n : Nat} {r : List Int} (h : n ≤ 1125899906842624 ∧ numL n ++ r = l) : getN l = some (n, r) := by
  rw [← h.2]; exact getN_numL n r h.1
theorem getN_noraw {l : List Int} (hr : rawN 8 l = none) : getN l = none := by
  unfold getN
  cases h2 : decN 8 l with
  | none => rfl
  | some q => rw [decN_raw 8 l q.1 q.2 h2] at hr; cases hr
/-- the reference's loop -/
theorem refGet_l0 (xs : List Int) (hx : isB xs) : ∀ (f i k a : Nat), i + f = 8 → f < k → i ≤ xs.length → a < 128 ^ i →
    (∀ n r, rawN f (xs.drop i) = some (n, r) → rawN 8 xs = some (a + 128 ^ i * n, r)) → (rawN f (xs.drop i) = none → rawN 8 xs = none) →
    ref04_GetNum.l0 (strOfNums xs) k (a : Int) ((128 ^ i : Nat) : Int) (i : Int) = some (match getN xs with | some (n, r) => .inl ((n : Int), strOfNums r, true) | none => if rawN 8 xs = none then .inr () else .inl (0, (⟨#[]⟩ : ByteArray), false)) := by
  intro f
  induction f with
  | zero =>
    intro i k a hi hk hl ha h1 h2
    obtain ⟨k, rfl⟩ : ∃ m, k = m + 1 := ⟨k - 1, by omega⟩
    have hr := h2 rfl
    rw [getN_noraw hr]
    simp only [hr, if_true]
    have : decide ((i : Int) < 8) = false := by simp; omega
    simp only [ref04_GetNum.l0, this, strOfNums_size]
    split <;> simp
  | succ f ih =>
    intro i k a hi hk hl ha h1 h2
    obtain ⟨k, rfl⟩ : ∃ m, k = m + 1 := ⟨k - 1, by omega⟩
    have h8 : decide ((i : Int) < 8) = true := by simp; omega
    by_cases hlt : i < xs.length
    · have hd : decide ((i : Int) < (xs.length : Int)) = true := by simp; omega
      have hdr : xs.drop i = xs[i] :: xs.drop (i + 1) := List.drop_eq_getElem_cons hlt
      have hg : bt (strOfNums xs) (i : Int) = xs[i] := by rw [bt_str hx, gt_nat xs i hlt]
      have hb := hx xs[i] (List.getElem_mem hlt)
      obtain ⟨b, hbb⟩ : ∃ b : Nat, xs[i] = (b : Int) := ⟨xs[i].toNat, by omega⟩
      have hp : 128 ^ i ≤ 562949953421312 := by
        have : (128 : Nat) ^ i ≤ 128 ^ 7 := Nat.pow_le_pow_right (by decide) (by omega)
        omega
      have hw : wi64 ((i : Int) + 1) = ((i + 1 : Nat) : Int) := by rw [wi64_id (by omega)]; omega
      have hm : wi64 ((wi64 (b : Int)).tmod 128 * ((128 ^ i : Nat) : Int)) = ((b % 128 * 128 ^ i : Nat) : Int) := by
        have e0 : (b : Int).tmod 128 = ((b % 128 : Nat) : Int) := by rw [Int.tmod_eq_emod_of_nonneg (by omega)]; omega
        have : b % 128 * 128 ^ i ≤ 127 * 562949953421312 := Nat.mul_le_mul (by omega) hp
        rw [wi64_id (x := (b : Int)) (by omega), e0, ← Int.natCast_mul, wi64_id (by omega)]
      have hm2 : b % 128 * 128 ^ i ≤ 127 * 562949953421312 := Nat.mul_le_mul (by omega) hp
      have hs : wi64 ((a : Int) + ((b % 128 * 128 ^ i : Nat) : Int)) = ((a + b % 128 * 128 ^ i : Nat) : Int) := by rw [wi64_id (by omega)]; omega
      have hgi : (0 ≤ (i : Int) ∧ (i : Int) < (xs.length : Int)) := ⟨by omega, by omega⟩
      simp only [decide_true, if_true, and_self, Option.bind_some, ref04_GetNum.l0, strOfNums_size, hd, h8, hgi, hg, hbb, hm, hs, hw]
      by_cases hb1 : b < 128
      · have hb2 : decide ((b : Int) < 128) = true := by simp; omega
        have hr : rawN 8 xs = some (a + b % 128 * 128 ^ i, xs.drop (i + 1)) := by
          have := h1 b (xs.drop (i + 1)) (by rw [hdr, hbb]; simp only [rawN]; rw [if_pos (by omega)]; simp)
          rw [this, Nat.mod_eq_of_lt hb1, Nat.mul_comm]
        obtain ⟨n, hn⟩ : ∃ n, n = a + b % 128 * 128 ^ i := ⟨_, rfl⟩
        rw [← hn] at hr
        simp only [hb2, if_true, ← hn]
        have hsx : sx (strOfNums xs) 0 ((i + 1 : Nat) : Int) = strOfNums (xs.take (i + 1)) := by rw [sx_str]; simp
        have hsy : sx (strOfNums xs) ((i + 1 : Nat) : Int) (xs.length : Int) = strOfNums (xs.drop (i + 1)) := by rw [sx_str]; simp
        by_cases hc : n ≤ 1125899906842624
        · have hc1 : decide ((n : Int) > 1125899906842624) = false := by simp; omega
          have hcl : clampN (n : Int) = n := by have := clampN_id (a := (n : Int)) (by omega) (by omega); omega
          have hsq : seq (strOfNums (numL n)) (strOfNums (xs.take (i + 1))) = decide (numL n = xs.take (i + 1)) := seq_str (numL_isB n) (isB_take hx _)
          simp only [hc1, Bool.false_eq_true, if_false]
          rw [if_pos (by omega), if_pos (by omega)]
          simp only [ref04_Num_eq, hcl, Option.bind_some, hsx, hsy, hsq]
          by_cases he : numL n = xs.take (i + 1)
          · rw [getN_some (l := xs) (n := n) (r := xs.drop (i + 1)) ⟨hc, by rw [he, List.take_append_drop]⟩]
            simp [he]
          · rw [getN_none hx hr (fun h => he (by
              have h3 := h.2
              have h4 := congrArg List.length h3
              rw [List.length_append, List.length_drop] at h4
              have h5 : (numL n).length = i + 1 := by omega
              have h6 := congrArg (List.take (i + 1)) h3
              rw [List.take_left' h5] at h6
              exact h6))]
            simp [he, hr]
        · have hc1 : decide ((n : Int) > 1125899906842624) = true := by simp; omega
          simp only [hc1, if_true, Option.bind_some]
          rw [getN_none hx hr (fun h => hc h.1)]
          simp [hr]
      · have hb2 : decide ((b : Int) < 128) = false := by simp; omega
        have hpp : wi64 (((128 ^ i : Nat) : Int) * 128) = ((128 ^ (i + 1) : Nat) : Int) := by
          rw [Nat.pow_succ, wi64_id (by omega)]; push_cast; rfl
        have hpw : 128 ^ (i + 1) = 128 ^ i * 128 := Nat.pow_succ ..
        have hbm : b % 128 = b - 128 := by omega
        have hlt2 : a + b % 128 * 128 ^ i < 128 ^ (i + 1) := by
          have : b % 128 * 128 ^ i ≤ 127 * 128 ^ i := Nat.mul_le_mul_right _ (by omega)
          omega
        simp only [hb2, Bool.false_eq_true, if_false, hpp]
        refine ih (i + 1) k (a + b % 128 * 128 ^ i) (by omega) (by omega) (by omega) hlt2 ?_ ?_
        · intro n r h
          have := h1 (b - 128 + 128 * n) r (by rw [hdr, hbb]; simp only [rawN]; rw [if_neg (by omega), h]; simp)
          rw [this, hbm, hpw]
          have : a + 128 ^ i * (b - 128 + 128 * n) = a + (b - 128) * 128 ^ i + 128 ^ i * 128 * n := by rw [Nat.mul_add, Nat.mul_comm (128 ^ i) (b - 128), Nat.mul_assoc]; omega
          rw [this]
        · intro h
          exact h2 (by rw [hdr, hbb]; simp only [rawN]; rw [if_neg (by omega), h])
    · have hd : decide ((i : Int) < (xs.length : Int)) = false := by simp; omega
      have hz : xs.drop i = [] := List.drop_eq_nil_iff.2 (by omega)
      have hr := h2 (by rw [hz]; rfl)
      rw [getN_noraw hr]
      simp only [ref04_GetNum.l0, strOfNums_size, hd, hr, if_true]
      rfl
theorem ref04_GetNum_eq (xs : List Int) (hx : isB xs) : ref04_GetNum (strOfNums xs) = some ((getR xs).1, strOfNums (getR xs).2.1, (getR xs).2.2) := by
  unfold ref04_GetNum getR
  have := refGet_l0 xs hx 8 0 FU 0 rfl (by have : FU = 4611686018427387904 := rfl
                                           omega) (by omega) (by decide) (fun n r h => by simpa using h) (fun h => by simpa using h)
  rw [show ref04_GetNum.l0 (strOfNums xs) FU 0 1 0 = _ from this]
  cases getN xs with
  | some p => rfl
  | none =>
    simp only
    split <;> rfl
end Go.Cen

/- ROOT: numbers read out of bytes, the program's way. -/
set_option linter.unusedVariables false
set_option linter.unusedSimpArgs false
namespace Go.Cen
/-- a result that fits what is to be read -/
def fitsG (xs : List Int) (ρ : Option (WireGot_int ⊕ Unit)) : Prop := match getN xs with
  | some (n, r) => ρ = some (.inl ⟨(n : Int), strOfNums r, true⟩)
  | none => ρ = some (.inr ()) ∨ ∃ g : WireGot_int, ρ = some (.inl g) ∧ g.ok = false
theorem wire_l0 (xs : List Int) (hx : isB xs) : ∀ (f i k a : Nat), i + f = 8 → f < k → i ≤ xs.length → a < 128 ^ i →
    (∀ n r, rawN f (xs.drop i) = some (n, r) → rawN 8 xs = some (a + 128 ^ i * n, r)) → (rawN f (xs.drop i) = none → rawN 8 xs = none) →
    (∀ n r, decN f (xs.drop i) = some (n, r) → (i = 0 ∨ n ≠ 0) → decN 8 xs = some (a + 128 ^ i * n, r)) → (∀ n r, rawN f (xs.drop i) = some (n, r) → (decN f (xs.drop i) = none ∨ (n = 0 ∧ 0 < i)) → decN 8 xs = none) →
    fitsG xs (wire_num.l0 (strOfNums xs) k (a : Int) (i : Int)) := by
  intro f
  induction f with
  | zero =>
    intro i k a hi hk hl ha h1 h2 h3 h4
    obtain ⟨k, rfl⟩ : ∃ m, k = m + 1 := ⟨k - 1, by omega⟩
    have hr := h2 rfl
    unfold fitsG
    rw [getN_noraw hr]
    have : decide ((i : Int) < (if 8 < (xs.length : Int) then 8 else (xs.length : Int))) = false := by simp; split <;> omega
    simp only [wire_num.l0, this, strOfNums_size]
    exact .inl rfl
  | succ f ih =>
    intro i k a hi hk hl ha h1 h2 h3 h4
    obtain ⟨k, rfl⟩ : ∃ m, k = m + 1 := ⟨k - 1, by omega⟩
    by_cases hlt : i < xs.length
    · have hd : decide ((i : Int) < (if 8 < (xs.length : Int) then 8 else (xs.length : Int))) = true := by simp; split <;> omega
      have hdr : xs.drop i = xs[i] :: xs.drop (i + 1) := List.drop_eq_getElem_cons hlt
      have hg : bt (strOfNums xs) (i : Int) = xs[i] := by rw [bt_str hx, gt_nat xs i hlt]
      have hb := hx xs[i] (List.getElem_mem hlt)
      obtain ⟨b, hbb⟩ : ∃ b : Nat, xs[i] = (b : Int) := ⟨xs[i].toNat, by omega⟩
      have hp : 128 ^ i ≤ 562949953421312 := by
        have : (128 : Nat) ^ i ≤ 128 ^ 7 := Nat.pow_le_pow_right (by decide) (by omega)
        omega
      have hw : wi64 ((i : Int) + 1) = ((i + 1 : Nat) : Int) := by rw [wi64_id (by omega)]; omega
      have hw7 : wi64 (7 * (i : Int)) = ((7 * i : Nat) : Int) := by rw [wi64_id (by omega)]; omega
      have hm2 : b % 128 * 128 ^ i ≤ 127 * 562949953421312 := Nat.mul_le_mul (by omega) hp
      have hpe : (2 : Nat) ^ (7 * i) = 128 ^ i := by rw [Nat.pow_mul]
      have hm : bShl .i64 (wi64 (bAnd .u8 (b : Int) 127)) ((7 * i : Nat) : Int) = ((b % 128 * 128 ^ i : Nat) : Int) := by
        rw [bAnd127 b (by omega), wi64_id (by omega), bShl_i64 _ _ (by omega) (by rw [hpe]; omega), hpe]
      have hs : bOr .i64 (a : Int) ((b % 128 * 128 ^ i : Nat) : Int) = ((a + b % 128 * 128 ^ i : Nat) : Int) := by
        rw [bOr_i64 _ _ (by omega) (by omega)]
        rw [← hpe, Nat.or_comm, or_add (by rw [hpe]; exact ha)]
        rw [hpe]; omega
      have hgi : (0 ≤ (i : Int) ∧ (i : Int) < (xs.length : Int)) := ⟨by omega, by omega⟩
      have h70 : 0 ≤ ((7 * i : Nat) : Int) := by omega
      simp only [decide_true, if_true, and_self, Option.bind_some, wire_num.l0, strOfNums_size, hd, hgi, hg, hbb, hw7, hm, hs, hw, h70]
      by_cases hb1 : b < 128
      · have hb2 : decide ((b : Int) < 128) = true := by simp; omega
        have hraw : rawN (f + 1) (xs.drop i) = some (b, xs.drop (i + 1)) := by rw [hdr, hbb]; simp only [rawN]; rw [if_pos (by omega)]; simp
        have hdec : decN (f + 1) (xs.drop i) = some (b, xs.drop (i + 1)) := by rw [hdr, hbb]; simp only [decN]; rw [if_pos (by omega)]; simp
        obtain ⟨n, hn⟩ : ∃ n, n = a + b % 128 * 128 ^ i := ⟨_, rfl⟩
        have hn2 : n = a + 128 ^ i * b := by rw [hn, Nat.mod_eq_of_lt hb1, Nat.mul_comm]
        have hr := h1 _ _ hraw
        rw [← hn2] at hr
        have hsy : sx (strOfNums xs) ((i + 1 : Nat) : Int) (xs.length : Int) = strOfNums (xs.drop (i + 1)) := by rw [sx_str]; simp
        have hgs : (0 : Int) ≤ ((i + 1 : Nat) : Int) ∧ ((i + 1 : Nat) : Int) ≤ (xs.length : Int) := ⟨by omega, by omega⟩
        simp only [hb2, if_true, ← hn, hsy, hgs, and_self, Int.le_refl]
        unfold fitsG
        by_cases hc : n ≤ 1125899906842624
        · have hc1 : decide ((n : Int) ≤ 1125899906842624) = true := by simp; omega
          simp only [hc1, if_true]
          by_cases hi0 : i = 0
          · have hd8 := h3 _ _ hdec (.inl hi0)
            rw [← hn2] at hd8
            have : getN xs = some (n, xs.drop (i + 1)) := by unfold getN; rw [hd8]; simp only; rw [if_pos hc]
            rw [this]
            subst hi0
            rfl
          · have hz : ((i : Int) == 0) = false := by simp; omega
            simp only [hz, Bool.false_eq_true, if_false]
            by_cases hb0 : b = 0
            · have hd8 := h4 _ _ hraw (.inr ⟨hb0, by omega⟩)
              have : getN xs = none := by unfold getN; rw [hd8]
              rw [this]
              exact .inr ⟨_, rfl, by simp [hb0]⟩
            · have hd8 := h3 _ _ hdec (.inr hb0)
              rw [← hn2] at hd8
              have : getN xs = some (n, xs.drop (i + 1)) := by unfold getN; rw [hd8]; simp only; rw [if_pos hc]
              rw [this]
              have : decide ((b : Int) > 0) = true := by simp; omega
              simp only [this]
              rfl
        · have hc1 : decide ((n : Int) ≤ 1125899906842624) = false := by simp; omega
          have : getN xs = none := getN_none hx hr (fun h => hc h.1)
          rw [this]
          simp only [hc1]
          exact .inr ⟨_, rfl, rfl⟩
      · have hb2 : decide ((b : Int) < 128) = false := by simp; omega
        have hpw : 128 ^ (i + 1) = 128 ^ i * 128 := Nat.pow_succ ..
        have hbm : b % 128 = b - 128 := by omega
        have hlt2 : a + b % 128 * 128 ^ i < 128 ^ (i + 1) := by
          have : b % 128 * 128 ^ i ≤ 127 * 128 ^ i := Nat.mul_le_mul_right _ (by omega)
          omega
        have hval : ∀ n, a + 128 ^ i * (b - 128 + 128 * n) = a + b % 128 * 128 ^ i + 128 ^ (i + 1) * n := by
          intro n
          rw [hbm, hpw, Nat.mul_add, Nat.mul_comm (128 ^ i) (b - 128), Nat.mul_assoc]; omega
        have hraws : ∀ n r, rawN f (xs.drop (i + 1)) = some (n, r) → rawN (f + 1) (xs.drop i) = some (b - 128 + 128 * n, r) := by
          intro n r h
          rw [hdr, hbb]; simp only [rawN]; rw [if_neg (by omega), h]; simp
        simp only [hb2, Bool.false_eq_true, if_false]
        refine ih (i + 1) k (a + b % 128 * 128 ^ i) (by omega) (by omega) (by omega) hlt2 ?_ ?_ ?_ ?_
        · intro n r h
          rw [h1 _ _ (hraws n r h), hval]
        · intro h
          exact h2 (by rw [hdr, hbb]; simp only [rawN]; rw [if_neg (by omega), h])
        · intro n r h hn
          have hn0 : n ≠ 0 := by rcases hn with h | h <;> omega
          rw [h3 (b - 128 + 128 * n) r (by rw [hdr, hbb]; simp only [decN]; rw [if_neg (by omega), h]; simp [hn0]) (.inr (by omega)), hval]
        · intro n r h hn
          refine h4 _ _ (hraws n r h) (.inl ?_)
          rw [hdr, hbb]; simp only [decN]; rw [if_neg (by omega)]
          cases hdc : decN f (xs.drop (i + 1)) with
          | none => rfl
          | some q =>
            rcases hn with h5 | h5
            · rw [hdc] at h5; cases h5
            · have := decN_raw _ _ q.1 q.2 hdc
              rw [h] at this
              simp only [Option.some.injEq, Prod.mk.injEq] at this
              have hq : q.1 = 0 := by omega
              simp [hq]
    · have hd : decide ((i : Int) < (if 8 < (xs.length : Int) then 8 else (xs.length : Int))) = false := by simp; split <;> omega
      have hz : xs.drop i = [] := List.drop_eq_nil_iff.2 (by omega)
      have hr := h2 (by rw [hz]; rfl)
      unfold fitsG
      rw [getN_noraw hr]
      simp only [wire_num.l0, strOfNums_size, hd]
      exact .inl rfl
theorem wire_GetNum_eq (xs : List Int) (hx : isB xs) : wire_GetNum (strOfNums xs) = some ((getR xs).1, strOfNums (getR xs).2.1, (getR xs).2.2) := by
  unfold wire_GetNum wire_num getR
  have := wire_l0 xs hx 8 0 FU 0 rfl (by have : FU = 4611686018427387904 := rfl
                                         omega) (by omega) (by decide) (fun n r h => by simpa using h) (fun h => by simpa using h) (fun n r h _ => by simpa using h) (fun n r h hh => by
    rcases hh with h5 | h5
    · simpa using h5
    · omega)
  unfold fitsG at this
  cases h : getN xs with
  | some p =>
    rw [h] at this
    simp only at this
    rw [show wire_num.l0 (strOfNums xs) FU 0 0 = _ from this]
    rfl
  | none =>
    rw [h] at this
    simp only at this
    rcases this with h2 | ⟨g, h2, h3⟩
    · rw [show wire_num.l0 (strOfNums xs) FU 0 0 = _ from h2]
      rfl
    · rw [show wire_num.l0 (strOfNums xs) FU 0 0 = _ from h2]
      simp only [Option.bind_some, wire_got_int_parts, h3]
      rfl
end Go.Cen
