/- SHA: the digest of any text, both ways; a digest's digits. -/
import Derived.Test.YtlojedndicppeaaGreatDoorGEvA
import Derived.Test.YtlojedndicppeaaGreatDoorGUtf8A
import Derived.Test.YtlojedndicppeaaGreatDoorCenPl
import Derived.Test.YtlojedndicppeaaGreatDoorPy
set_option linter.unusedVariables false
set_option linter.unusedSimpArgs false
set_option maxRecDepth 100000
namespace Go.Cen
theorem gt_sub (xs : List Int) {a b j : Int} (ha : 0 ≤ a) (hj : 0 ≤ j) (hb : a + j < b) : gt (sub xs a b) j = gt xs (a + j) := by
  simp only [gt, sub, List.getD_eq_getElem?_getD, List.getElem?_take, List.getElem?_drop]
  rw [if_pos (by omega), show a.toNat + j.toNat = (a + j).toNat by omega]
theorem size_sx (s : ByteArray) {a b : Int} (h : 0 ≤ a ∧ a ≤ b ∧ b ≤ (s.size : Int)) : ((sx s a b).size : Int) = b - a := by
  have := congrArg List.length (sx_byts s h)
  rw [byts_length, sub_length (byts s) (by rw [byts_length]; exact h)] at this
  omega
theorem of_step (K : List Int) {p : ByteArray} (hm : (p.size : Int) ≤ 4611686018427387904 - 64) : ∀ (n : Nat) (off : Int) (q : ByteArray) (k k' : Nat) (x : List Int), 0 ≤ off → (p.size : Int) = off + 64 * n → byts q = sub (byts p) off p.size → n < k → n < k' → x.length = 8 → (∀ y ∈ x, u32 y) →
    ∃ r, sha_Of.l0 K k q x = some r ∧ ref02_Of.l0 p K k' off x = some r ∧ r.length = 8 ∧ ∀ y ∈ r, u32 y := by
  intro n
  induction n with
  | zero =>
    intro off q k k' x h0 hp hq hk hk' hx hu
    obtain ⟨k, rfl⟩ : ∃ m, k = m + 1 := ⟨k - 1, by omega⟩
    obtain ⟨k', rfl⟩ : ∃ m, k' = m + 1 := ⟨k' - 1, by omega⟩
    have hl := congrArg List.length hq
    rw [byts_length, sub_length (byts p) (by rw [byts_length]; omega)] at hl
    have d1 : decide ((q.size : Int) > 0) = false := decide_eq_false (by omega)
    have d2 : decide (off < (p.size : Int)) = false := by simp; omega
    simp only [sha_Of.l0, ref02_Of.l0, d1, d2, Bool.false_eq_true, if_false]
    exact ⟨x, rfl, rfl, hx, hu⟩
  | succ n ih =>
    intro off q k k' x h0 hp hq hk hk' hx hu
    obtain ⟨k, rfl⟩ : ∃ m, k = m + 1 := ⟨k - 1, by omega⟩
    obtain ⟨k', rfl⟩ : ∃ m, k' = m + 1 := ⟨k' - 1, by omega⟩
    have hl := congrArg List.length hq
    rw [byts_length, sub_length (byts p) (by rw [byts_length]; omega)] at hl
    have hqs : (q.size : Int) = p.size - off := by omega
    have d1 : decide ((q.size : Int) > 0) = true := decide_eq_true (by omega)
    have d2 : decide (off < (p.size : Int)) = true := by simp; omega
    have g1 : (0 : Int) ≤ 0 ∧ (0 : Int) ≤ 64 ∧ (64 : Int) ≤ (q.size : Int) := ⟨by omega, by omega, by omega⟩
    have g2 : (0 : Int) ≤ 64 ∧ (64 : Int) ≤ (q.size : Int) ∧ (q.size : Int) ≤ (q.size : Int) := ⟨by omega, by omega, by omega⟩
    have hblk := sx_byts q g1
    have hblks := size_sx q g1
    have hrest := sx_byts q g2
    obtain ⟨ws, y, r1, w1, w2, w3, w4, w5, w6⟩ := block_both K (blk := sx q 0 64) (p := p) (off := off) (x := x) (by omega) h0 (by omega) (by omega) (fun j j0 j1 => by
      rw [bt_eq, bt_eq, hblk, gt_sub _ (by omega) j0 (by omega), hq, gt_sub _ h0 (by omega) (by omega)]
      simp) hx hu
    have e1 : wi64 (off + 64) = off + 64 := wi64_id (by omega)
    obtain ⟨r, h1, h2, h3, h4⟩ := ih (off + 64) (sx q 64 q.size) k k' r1 (by omega) (by omega) (by
      rw [hrest, hq]
      simp only [sub, List.drop_take, List.drop_drop, List.take_take]
      rw [show off.toNat + (64 : Int).toNat = (off + 64).toNat by omega]
      congr 1
      omega) (by omega) (by omega) w5 w6
    refine ⟨r, ?_, ?_, h3, h4⟩
    · simp only [sha_Of.l0, d1, if_true, g1, g2, and_self, w4, Option.bind_some]
      exact h1
    · simp only [ref02_Of.l0, d2, if_true, w1, w2, w3, Option.bind_some, e1]
      exact h2
theorem ref_l6 : ∀ (n : Nat) (v : Nat) (i : Int) (k : Nat), i = 3 - n → n ≤ 3 → n < k → v < 4294967296 → ref02_Of.l6 k (v : Int) i = some ((v / 256 ^ n : Nat) : Int) := by
  intro n
  induction n with
  | zero =>
    intro v i k hi _ hk hv
    obtain ⟨k, rfl⟩ : ∃ m, k = m + 1 := ⟨k - 1, by omega⟩
    have d : decide (i < 3) = false := by simp; omega
    simp [ref02_Of.l6, d]
  | succ n ih =>
    intro v i k hi hn hk hv
    obtain ⟨k, rfl⟩ : ∃ m, k = m + 1 := ⟨k - 1, by omega⟩
    have d : decide (i < 3) = true := by simp; omega
    have e1 : wi64 (i + 1) = i + 1 := wi64_id (by omega)
    have e2 : wu32 ((v : Int).tdiv 256) = ((v / 256 : Nat) : Int) := by rw [Int.tdiv_eq_ediv_of_nonneg (by omega), wu32_eq]; omega
    simp only [ref02_Of.l6, d, if_true, e1, e2]
    rw [ih (v / 256) (i + 1) k (by omega) (by omega) (by omega) (by omega), Nat.div_div_eq_div_mul, ← Nat.pow_succ']
theorem out_step {h : List Int} (hu : ∀ y ∈ h, u32 y) : ∀ (n : Nat) (i : Int) (k k' : Nat) (x : List Int), i = 32 - n → n ≤ 32 → n < k → n < k' → x.length = 32 → isB x →
    ∃ r, sha_Of.l1 h k i x = some r ∧ ref02_Of.l5 h k' i x = some r ∧ r.length = 32 ∧ isB r := by
  intro n
  induction n with
  | zero =>
    intro i k k' x hi _ hk hk' hx hb
    obtain ⟨k, rfl⟩ : ∃ m, k = m + 1 := ⟨k - 1, by omega⟩
    obtain ⟨k', rfl⟩ : ∃ m, k' = m + 1 := ⟨k' - 1, by omega⟩
    have : decide (i < 32) = false := by simp; omega
    simp only [sha_Of.l1, ref02_Of.l5, this, Bool.false_eq_true, if_false]
    exact ⟨x, rfl, rfl, hx, hb⟩
  | succ n ih =>
    intro i k k' x hi hd hk hk' hx hb
    obtain ⟨k, rfl⟩ : ∃ m, k = m + 1 := ⟨k - 1, by omega⟩
    obtain ⟨k', rfl⟩ : ∃ m, k' = m + 1 := ⟨k' - 1, by omega⟩
    have hlt : decide (i < 32) = true := by simp; omega
    have e1 : wi64 (i + 1) = i + 1 := wi64_id (by omega)
    have gi : 0 ≤ i ∧ i < 32 := ⟨by omega, by omega⟩
    have q1 : wi64 (i.tdiv 4) = i / 4 := by rw [Int.tdiv_eq_ediv_of_nonneg gi.1, wi64_id (by omega)]
    have q2 : i.tmod 4 = i % 4 := Int.tmod_eq_emod_of_nonneg gi.1
    have gq : 0 ≤ i / 4 ∧ i / 4 < 8 := by omega
    have q3 : wi64 (8 * (i % 4)) = 8 * (i % 4) := wi64_id (by omega)
    have q4 : wi64 (24 - 8 * (i % 4)) = 24 - 8 * (i % 4) := wi64_id (by omega)
    have gs : 0 ≤ 24 - 8 * (i % 4) := by omega
    have hg := gt_all hu u32_0 (i / 4)
    obtain ⟨v, hv⟩ := Int.eq_ofNat_of_zero_le hg.1
    have hvl : v < 4294967296 := by have := hg.2; omega
    obtain ⟨t, ht, ht3⟩ : ∃ t : Nat, i % 4 = 3 - (t : Int) ∧ t ≤ 3 := ⟨(3 - i % 4).toNat, by omega, by omega⟩
    have hs : wu8 (bShr .u32 (gt h (i / 4)) (24 - 8 * (i % 4))) = ((v / 256 ^ t % 256 : Nat) : Int) := by
      have := bShr_eq (k := .u32) (x := (v : Int)) (n := 8 * t) (by show 8 * t ≤ 32; omega)
      rw [show ((8 * t : Nat) : Int) = 24 - 8 * (i % 4) by omega] at this
      rw [hv, this, wu8_eq, Int.natCast_emod, Int.natCast_ediv, Int.natCast_pow]
      rw [show (2 : Int) ^ (8 * t) = (256 : Int) ^ t by rw [Int.pow_mul]; rfl]
      rfl
    have hr := ref_l6 t v (i % 4) FU (by omega) ht3 (by simp [FU]; omega) hvl
    have hmod : wu8 (((v / 256 ^ t : Nat) : Int).tmod 256) = ((v / 256 ^ t % 256 : Nat) : Int) := by
      generalize v / 256 ^ t = z
      rw [Int.tmod_eq_emod_of_nonneg (by omega), wu8_eq]; omega
    have hbv : 0 ≤ ((v / 256 ^ t % 256 : Nat) : Int) ∧ ((v / 256 ^ t % 256 : Nat) : Int) < 256 := by
      generalize v / 256 ^ t = z
      omega
    obtain ⟨r, h1, h2, h3, h4⟩ := ih (i + 1) k k' (st x i ((v / 256 ^ t % 256 : Nat) : Int)) (by omega) (by omega) (by omega) (by omega) (by rw [st_length, hx]) (st_all hb hbv)
    refine ⟨r, ?_, ?_, h3, h4⟩
    · simp only [sha_Of.l1, hlt, if_true, q1, q2, gq, and_self, q3, q4, gs, gi, e1, hs]; exact h1
    · simp only [ref02_Of.l5, hlt, if_true, q1, q2, gq, and_self, gi, e1, hv, hr, Option.bind_some, hmod]; exact h2
def K8 : List Int := [1779033703, 3144134277, 1013904242, 2773480762, 1359893119, 2600822924, 528734635, 1541459225]
def K64 : List Int := ref02_cubes.getD []
theorem roots_eq : ref02_roots = some K8 := rfl
theorem cubes_eq : ref02_cubes = some K64 := rfl
set_option maxRecDepth 1000000 in
theorem constants_eq : sha_constants = some (K8, K64) := by decide +kernel
/-- THE DIGEST OF ANY TEXT: both alike. -/
theorem of_both {a : ByteArray} (ha : a.size ≤ 1000000000000) : ∃ d, sha_Of a = some d ∧ ref02_Of a = some d ∧ d.length = 32 ∧ isB d := by
  obtain ⟨hp, hp'⟩ := pad_both ha
  have hB := padL_isB (byts_isB a)
  have hsz : (strOfNums (padL (byts a))).size = (padL (byts a)).length := strOfNums_size _
  have hlen := padL_length (byts a)
  have hb := byts_length a
  have hz := (padN_facts (byts a).length).1
  have hmod := padL_mod (byts a)
  obtain ⟨r, h1, h2, h3, h4⟩ := of_step K64 (p := strOfNums (padL (byts a))) (by rw [hsz]; omega) ((padL (byts a)).length / 64) 0 (strOfNums (padL (byts a))) FU FU K8 (by omega) (by rw [hsz]; omega)
    (by rw [hsz, byts_strOfNums hB]; simp [sub]) (by simp [FU]; omega) (by simp [FU]; omega) rfl (by intro y hy; simp only [K8, List.mem_cons, List.not_mem_nil, or_false] at hy; rcases hy with rfl | rfl | rfl | rfl | rfl | rfl | rfl | rfl <;> exact ⟨by decide, by decide⟩)
  obtain ⟨d, d1, d2, d3, d4⟩ := out_step h4 32 0 FU FU (List.replicate 32 (0 : Int)) (by omega) (by omega) (by simp [FU]) (by simp [FU]) (by simp) (fun x hx => by rw [List.eq_of_mem_replicate hx]; omega)
  refine ⟨d, ?_, ?_, d3, d4⟩
  · unfold sha_Of
    rw [constants_eq]; simp only [Option.bind_some]
    rw [hp]; simp only [Option.bind_some]
    rw [h1]; simp only [Option.bind_some]
    rw [d1]; rfl
  · unfold ref02_Of
    rw [roots_eq, cubes_eq]; simp only [Option.bind_some]
    rw [hp']; simp only [Option.bind_some]
    rw [h2]; simp only [Option.bind_some]
    rw [d2]; rfl
end Go.Cen

/- SHA: a digest's digits; links. -/
set_option linter.unusedVariables false
set_option linter.unusedSimpArgs false
set_option maxRecDepth 100000
namespace Go.Cen
theorem drop_gt (d : List Int) {i : Int} (h0 : 0 ≤ i) (h : i < d.length) : d.drop i.toNat = gt d i :: d.drop (i + 1).toNat := by
  obtain ⟨hl, e⟩ := gt_lt d h0 h
  rw [e, List.drop_eq_getElem_cons hl, show (i + 1).toNat = i.toNat + 1 by omega]
theorem bytes_step {d : List Int} (hd : d.length = 32) : ∀ (n : Nat) (i : Int) (k : Nat) (acc : List Int), i = 32 - n → n ≤ 32 → n < k → acc.length ≤ 32 - n → ref02_Bytes.l0 d k acc i = some (acc ++ d.drop i.toNat) := by
  intro n
  induction n with
  | zero =>
    intro i k acc hi _ hk _
    obtain ⟨k, rfl⟩ : ∃ m, k = m + 1 := ⟨k - 1, by omega⟩
    have : decide (i < 32) = false := decide_eq_false (by omega)
    have e : d.drop i.toNat = [] := List.drop_of_length_le (by omega)
    simp [ref02_Bytes.l0, this, e]
  | succ n ih =>
    intro i k acc hi hn hk hl
    obtain ⟨k, rfl⟩ : ∃ m, k = m + 1 := ⟨k - 1, by omega⟩
    have hlt : decide (i < 32) = true := decide_eq_true (by omega)
    have e1 : wi64 (i + 1) = i + 1 := wi64_id (by omega)
    have gi : 0 ≤ i ∧ i < 32 := ⟨by omega, by omega⟩
    have gl : acc.length + ([gt d i] : List Int).length ≤ LIM := by simp [LIM]; omega
    rw [drop_gt d gi.1 (by omega)]
    simp only [ref02_Bytes.l0, hlt, if_true, gi, and_self, e1, gl]
    rw [ih (i + 1) k _ (by omega) (by omega) (by omega) (by simp; omega)]
    simp
theorem ref_bytes {d : List Int} (hd : d.length = 32) : ref02_Bytes d = some (strOfNums d) := by
  unfold ref02_Bytes
  rw [bytes_step hd 32 0 FU [] (by omega) (by omega) (by simp [FU]) (by simp)]
  simp
theorem link_both {d : List Int} (hd : d.length = 32) {a : ByteArray} (ha : a.size ≤ 900000000000) : ∃ e, sha_Link d a = some e ∧ ref02_Link d a = some e ∧ sha_Of (strOfNums d ++ a) = some e ∧ e.length = 32 ∧ isB e := by
  have hs : (strOfNums d).size = 32 := by rw [strOfNums_size, hd]
  obtain ⟨e, h1, h2, h3, h4⟩ := of_both (a := strOfNums d ++ a) (by rw [ByteArray.size_append, hs]; omega)
  have g : (strOfNums d).size + a.size ≤ LIM := by rw [hs]; simp [LIM]; omega
  refine ⟨e, ?_, ?_, h1, h3, h4⟩
  · unfold sha_Link; rw [if_pos g, h1]; rfl
  · unfold ref02_Link; rw [ref_bytes hd]; simp only [Option.bind_some]; rw [if_pos g, h2]; rfl
end Go.Cen

/- EVENT: bytes; the reference. -/
set_option linter.unusedVariables false
set_option linter.unusedSimpArgs false
namespace Go.Cen
def putE (e : ApiEvent) : List Int := numL (clampN e.Kind) ++ (partsE e).flatMap bytD
def putR (e : ApiEvent) : ByteArray × Bool := if validE e then (strOfNums (putE e), true) else (⟨#[]⟩, false)
theorem event_Put_eq {e : ApiEvent} (h : okE e) : event_Put e = some (putR e) := by
  have hp := parts_ok h
  have hl := parts_len e
  have hc := clampN_len e.Kind
  unfold event_Put putR
  rw [event_Valid_eq h]
  cases validE e with
  | false => rfl
  | true =>
    simp only [Option.bind_some, Bool.not_true, Bool.false_eq_true, if_false, wire_Num_eq, parts_eq, if_true]
    rw [put_l0 _ hp (by omega) _ (by omega)]
    rfl
theorem ref03_Valid_eq (s : ByteArray) (h : s.size ≤ 100000) : ref03_Valid s = some (nmOk s) := by
  have := ref03_Valid_str (l := byts s) (byts_isB s) (by rw [byts_len]; exact h)
  rwa [strOfNums_byts] at this
def tells5 (k : Int) : List Bool := if k = 0 ∨ k = 4 ∨ k = 5 then [true, true, false, false, false] else if k = 1 then [true, false, false, true, false] else if k = 2 then [true, false, true, true, true]
  else if k = 3 then [true, false, true, false, false] else if k = 6 then [true, false, false, false, false] else if k = 7 then [false, false, true, false, false] else [false, false, false, false, false]
theorem tells_eq (k : Int) : ref05_tells k = some (tells5 k) := by
  unfold ref05_tells tells5
  rcases kinds k with k | k | k | k | k | k | k | k | ⟨k0, k4, k5, k1, k2, k3, k6, k7⟩
  all_goals first
    | (subst k; rfl)
    | simp [k0, k1, k2, k3, k4, k5, k6, k7]
theorem gtB (a b c d e : Bool) : gt [a, b, c, d, e] 0 = a ∧ gt [a, b, c, d, e] 1 = b ∧ gt [a, b, c, d, e] 2 = c ∧ gt [a, b, c, d, e] 3 = d ∧ gt [a, b, c, d, e] 4 = e := ⟨rfl, rfl, rfl, rfl, rfl⟩
set_option maxHeartbeats 2000000 in
theorem ref05_Valid_eq {e : ApiEvent} (h : okE e) : ref05_Valid e = some (validE e) := by
  unfold ref05_Valid
  rw [tells_eq, ref03_Valid_eq _ h.1]
  rcases kinds e.Kind with k | k | k | k | k | k | k | k | ⟨k0, k4, k5, k1, k2, k3, k6, k7⟩
  case inr.inr.inr.inr.inr.inr.inr.inr =>
    have : (if decide (e.Kind < 0) = true then some true else some (decide (e.Kind > 7))) = some true := by
      by_cases q : e.Kind < 0
      · simp [q]
      · have : e.Kind > 7 := by omega
        simp [this]
    rw [this]
    simp [validE, k0, k1, k2, k3, k4, k5, k6, k7]
  all_goals
    have hz : eqA e.Sum ([0, 0, 0, 0, 0, 0, 0, 0, 0, 0, 0, 0, 0, 0, 0, 0, 0, 0, 0, 0, 0, 0, 0, 0, 0, 0, 0, 0, 0, 0, 0, 0] : List Int) = noD e.Sum := rfl
    simp [k, tells5, validE, (gtB _ _ _ _ _).1, (gtB _ _ _ _ _).2.1, (gtB _ _ _ _ _).2.2.1, (gtB _ _ _ _ _).2.2.2.1, (gtB _ _ _ _ _).2.2.2.2, hz]
    have r1 : ∀ a b x : Int, (if a ≤ x then if x ≤ b then some true else some false else some false) = some (decide (a ≤ x) && decide (x ≤ b)) := fun a b x => by
      by_cases q : a ≤ x <;> by_cases q' : x ≤ b <;> simp [q, q']
    have r2 : ∀ b : Bool, (if b = true then some true else some false) = some b := fun b => by cases b <;> rfl
    have e1 : seq e.Name (⟨#[]⟩ : ByteArray) = noS e.Name := rfl
    simp only [r1, r2, Option.bind_some, e1]
    have e2 : (decide (1 ≤ e.ID) && decide (e.ID ≤ 1099511627776)) = idOk e.ID := rfl
    have e3 : (decide (0 ≤ e.Time) && decide (e.Time ≤ 1099511627776)) = timeOk e.Time := rfl
    have e4 : (decide (0 ≤ e.Len) && decide (e.Len ≤ 600)) = lenOk 0 e.Len := rfl
    have e5 : (decide (1 ≤ e.Len) && decide (e.Len ≤ 600)) = lenOk 1 e.Len := rfl
    (try simp only [e2, e3, e4, e5])
    clear e2 e3 e4 e5 r1 r2 e1
    generalize lenOk 1 e.Len = b1
    generalize lenOk 0 e.Len = b0
    generalize timeOk e.Time = bt
    generalize idOk e.ID = bi
    generalize noS e.Name = bs
    generalize nmOk e.Name = bn
    by_cases hT : e.Time = 0 <;> by_cases hL : e.Len = 0 <;> by_cases hI : e.ID = 0
    all_goals
      cases bs <;> cases bi <;> simp [hT, hL, hI]
    all_goals
      cases bn <;> cases bt <;> cases b0 <;> cases b1 <;> (try simp)
theorem ref04_Text_eq (s : ByteArray) (h : s.size ≤ 100000) : ref04_Text s = some (strOfNums (numL (clampN (s.size : Int)) ++ byts s)) := by
  have hL := LIM_val
  have := clampN_len (s.size : Int)
  unfold ref04_Text
  rw [ref04_Num_eq]
  simp only [Option.bind_some, strOfNums_size]
  rw [if_pos (by omega)]
  congr 1
  rw [← strOfNums_append, strOfNums_byts]
theorem ref04_Sum_eq {d : List Int} (h : d.length = 32) : ref04_Sum d = some (strOfNums d) := by
  unfold ref04_Sum
  rw [ref_bytes h]; rfl
theorem ref05_Put_eq {e : ApiEvent} (h : okE e) : ref05_Put e = some (putR e) := by
  have hL := LIM_val
  have c0 := clampN_len e.Kind
  have c1 := clampN_len e.ID
  have c2 := clampN_len e.Time
  have c3 := clampN_len e.Len
  have c4 := clampN_len (e.Name.size : Int)
  have hn := h.1
  have h32 := h.2.1
  have hb := byts_len e.Name
  unfold ref05_Put putR
  rw [ref05_Valid_eq h]
  cases hv : validE e with
  | false => rfl
  | true =>
    simp only [Option.bind_some, Bool.not_true, Bool.false_eq_true, if_false, if_true, tells_eq, ref04_Num_eq, ref04_Text_eq _ h.1, ref04_Sum_eq h.2.1, putE]
    rcases kinds e.Kind with k | k | k | k | k | k | k | k | ⟨k0, k4, k5, k1, k2, k3, k6, k7⟩
    case inr.inr.inr.inr.inr.inr.inr.inr => simp [validE, k0, k1, k2, k3, k4, k5, k6, k7] at hv
    all_goals
      have hq : ∀ (xs ys : List Int), xs.length ≤ 1000 → ys.length ≤ 100100 → (strOfNums xs).size + (strOfNums ys).size ≤ LIM := fun xs ys h1 h2 => by rw [strOfNums_size, strOfNums_size]; omega
      rw [k] at c0
      simp only [k, tells5, partsE, (gtB _ _ _ _ _).1, (gtB _ _ _ _ _).2.1, (gtB _ _ _ _ _).2.2.1, (gtB _ _ _ _ _).2.2.2.1, (gtB _ _ _ _ _).2.2.2.2, if_true, Option.bind_some, Int.reduceEq, or_true, true_or, or_false, false_or, or_self, if_false, Bool.false_eq_true, reduceCtorEq]
      simp only [strOfNums_append, strOfNums_size, List.length_append, hb, h32]
      repeat (first | rw [if_pos (by omega)] | simp only [Option.bind_some, strOfNums_append, strOfNums_size, List.length_append, hb, h32])
      simp [bytD]
end Go.Cen

/- EVENT: bytes tell the event. -/
set_option linter.unusedVariables false
set_option linter.unusedSimpArgs false
namespace Go.Cen
theorem eq_event_iff (a b : ApiEvent) : eq_ApiEvent a b = true ↔ a = b := by
  cases a; cases b
  simp [eq_ApiEvent, seq_iff, eqA_iff]
end Go.Cen

/- ROOT: what is valid, and its bytes. -/
set_option linter.unusedVariables false
set_option linter.unusedSimpArgs false
namespace Go.Cen
/-- one row, as four numbers -/
structure Q where
  l : Int
  o : Int
  b : Int
  t : Int
  deriving DecidableEq
end Go.Cen

/- ROOT: its bytes, and the parts. -/
set_option linter.unusedVariables false
set_option linter.unusedSimpArgs false
namespace Go.Cen
/-- a number's bytes, clamped -/
def nm (a : Int) : List Int := numL (clampN a)
end Go.Cen

/- EVENT: what was put is got again. -/
set_option linter.unusedVariables false
set_option linter.unusedSimpArgs false
set_option maxRecDepth 100000
namespace Go.Cen
theorem gsum {d : List Int} (h : d.length = 32) (hd : isB d) {r : List Int} (hr : isB r) : wire_GetSum (strOfNums (d ++ r)) = some (d, strOfNums r, true) := by
  unfold wire_GetSum
  have hsz : ((strOfNums (d ++ r)).size : Int) = ((32 + r.length : Nat) : Int) := by rw [strOfNums_size, List.length_append, h]
  have c : ¬ (((32 + r.length : Nat) : Int) < 32) := by omega
  have g1 : (0 : Int) ≤ 0 ∧ (0 : Int) ≤ 32 ∧ (32 : Int) ≤ ((32 + r.length : Nat) : Int) := by omega
  have g2 : (0 : Int) ≤ 32 ∧ (32 : Int) ≤ ((32 + r.length : Nat) : Int) ∧ ((32 + r.length : Nat) : Int) ≤ ((32 + r.length : Nat) : Int) := by omega
  have e1 : sx (strOfNums (d ++ r)) 0 32 = strOfNums d := by
    rw [sx_str]
    have : (32 : Int).toNat = d.length := by rw [h]; rfl
    rw [this, List.take_left]; simp
  have e2 : sx (strOfNums (d ++ r)) 32 ((32 + r.length : Nat) : Int) = strOfNums r := by
    rw [sx_str]
    have h1 : ((32 + r.length : Nat) : Int).toNat = (d ++ r).length := by rw [List.length_append, h]; omega
    have h2 : (32 : Int).toNat = d.length := by rw [h]; rfl
    rw [h1, List.take_length, h2, List.drop_left]
  have hlim : (strOfNums d).size ≤ LIM := by rw [strOfNums_size, h]; decide
  rw [hsz]
  simp only [c, decide_false, Bool.false_eq_true, if_false, g1, g2, and_self, if_true, e1, e2, hlim, byts_strOfNums hd, h]
  rfl
end Go.Cen

/- EVENT: what is got from any bytes. -/
set_option linter.unusedVariables false
set_option linter.unusedSimpArgs false
set_option maxRecDepth 100000
namespace Go.Cen
theorem sum_cases {xs : List Int} (hx : isB xs) : (∃ a b, wire_GetSum (strOfNums xs) = some (a, b, false)) ∨ ∃ (d r : List Int), d.length = 32 ∧ isB d ∧ isB r ∧ xs = d ++ r ∧ wire_GetSum (strOfNums xs) = some (d, strOfNums r, true) := by
  by_cases c : xs.length < 32
  · left; unfold wire_GetSum
    have : ((strOfNums xs).size : Int) < 32 := by rw [strOfNums_size]; omega
    simp only [this, decide_true, if_true]
    exact ⟨_, _, rfl⟩
  · right
    have e : xs = xs.take 32 ++ xs.drop 32 := (List.take_append_drop 32 xs).symm
    have hl : (xs.take 32).length = 32 := by rw [List.length_take]; omega
    refine ⟨xs.take 32, xs.drop 32, hl, isB_take hx 32, isB_drop hx 32, e, ?_⟩
    have := gsum hl (isB_take hx 32) (isB_drop hx 32)
    rw [← e] at this
    exact this
end Go.Cen

/- EVENT: what the document reads of any bytes. -/
set_option linter.unusedVariables false
set_option linter.unusedSimpArgs false
set_option maxRecDepth 100000
namespace Go.Cen
theorem rsum_l0 {xs : List Int} (hx : isB xs) (h32 : 32 ≤ xs.length) : ref04_GetSum.l0 (strOfNums xs) FU 0 (List.replicate 32 (0 : Int)) = some (xs.take 32) := by
  have := loopNI 32 (by omega) (fun k i (s : List Int) => ref04_GetSum.l0 (strOfNums xs) k i s) (fun i s => some (s.take i ++ (xs.drop i).take (32 - i))) (fun i s => s.length = 32)
    (fun k s hs => by
      have hd : decide (((32 : Nat) : Int) < 32) = false := by decide
      simp only [ref04_GetSum.l0, hd, Bool.false_eq_true, if_false]
      rw [List.take_of_length_le (by omega)]; simp)
    (fun k i hi hw s hs ih => by
      have hd : decide ((i : Int) < 32) = true := by simp; omega
      have hg : 0 ≤ (i : Int) ∧ (i : Int) < ((strOfNums xs).size : Int) := by rw [strOfNums_size]; omega
      have hg2 : 0 ≤ (i : Int) ∧ (i : Int) < 32 := by omega
      have hb : bt (strOfNums xs) (i : Int) = xs[i] := by rw [bt_str hx, gt_nat xs i (by omega)]
      have hst : (st s (i : Int) (xs[i])).length = 32 := by simp [st, hs]
      simp only [ref04_GetSum.l0, hd, if_true, hg, hg2, and_self, hb, hw]
      rw [ih _ hst]
      congr 1
      have hcons : xs.drop i = xs[i] :: xs.drop (i + 1) := List.drop_eq_getElem_cons (by omega)
      have e1 : (32 - i) = (32 - (i + 1)) + 1 := by omega
      rw [hcons, e1, List.take_succ_cons]
      have e2 : (st s (i : Int) (xs[i])).take (i + 1) = s.take i ++ [xs[i]] := by
        unfold st
        have : (i : Int).toNat = i := by omega
        rw [this, List.take_add_one, List.take_set_of_le (Nat.le_refl _), List.getElem?_set_self (by omega)]
        rfl
      rw [e2, List.append_assoc]; rfl) (List.replicate 32 0) (by simp)
  rw [this]; simp
theorem rsum_cases {xs : List Int} (hx : isB xs) : (ref04_GetSum (strOfNums xs) = some (z32, ⟨#[]⟩, false) ∧ wire_GetSum (strOfNums xs) = some (z32, ⟨#[]⟩, false)) ∨ ∃ (d r : List Int), d.length = 32 ∧ isB d ∧ isB r ∧ ref04_GetSum (strOfNums xs) = some (d, strOfNums r, true) ∧ wire_GetSum (strOfNums xs) = some (d, strOfNums r, true) := by
  by_cases c : xs.length < 32
  · left
    have : ((strOfNums xs).size : Int) < 32 := by rw [strOfNums_size]; omega
    constructor
    · unfold ref04_GetSum; simp only [this, decide_true, if_true]; rfl
    · unfold wire_GetSum; simp only [this, decide_true, if_true]; rfl
  · right
    have e : xs = xs.take 32 ++ xs.drop 32 := (List.take_append_drop 32 xs).symm
    have hl : (xs.take 32).length = 32 := by rw [List.length_take]; omega
    refine ⟨xs.take 32, xs.drop 32, hl, isB_take hx 32, isB_drop hx 32, ?_, ?_⟩
    · unfold ref04_GetSum
      have c2 : ¬ ((strOfNums xs).size : Int) < 32 := by rw [strOfNums_size]; omega
      have g : (0 : Int) ≤ 32 ∧ (32 : Int) ≤ ((strOfNums xs).size : Int) ∧ ((strOfNums xs).size : Int) ≤ ((strOfNums xs).size : Int) := by rw [strOfNums_size]; omega
      have es : sx (strOfNums xs) 32 ((strOfNums xs).size : Int) = strOfNums (xs.drop 32) := by
        rw [sx_str, strOfNums_size]
        have h1 : (xs.length : Int).toNat = xs.length := by omega
        have h2 : (32 : Int).toNat = 32 := rfl
        rw [h1, List.take_length, h2]
      simp only [c2, decide_false, Bool.false_eq_true, if_false, rsum_l0 hx (by omega), Option.bind_some, g, and_self, if_true, es]
    · have := gsum hl (isB_take hx 32) (isB_drop hx 32)
      rw [← e] at this
      exact this
end Go.Cen

/- EVENT: the event that any bytes begin with. -/
set_option linter.unusedVariables false
set_option linter.unusedSimpArgs false
set_option maxRecDepth 100000
namespace Go.Cen
theorem rsum_same {xs : List Int} (hx : isB xs) : ref04_GetSum (strOfNums xs) = wire_GetSum (strOfNums xs) := by
  rcases rsum_cases hx with ⟨a, b⟩ | ⟨s, r, _, _, _, a, b⟩ <;> rw [a, b]
theorem rs {xs : List Int} (hx : isB xs) : ref04_GetSum (strOfNums xs) = some (z32, ⟨#[]⟩, false) ∨ ∃ (d r : List Int), d.length = 32 ∧ isB d ∧ isB r ∧ xs = d ++ r ∧ ref04_GetSum (strOfNums xs) = some (d, strOfNums r, true) := by
  rcases rsum_cases hx with ⟨a, b⟩ | ⟨s, r, _, _, _, a, b⟩
  · exact .inl a
  · rcases sum_cases hx with ⟨x, y, w⟩ | ⟨s', r', h1, h2, h3, h4, w⟩
    · rw [b] at w; simp at w
    · exact .inr ⟨s', r', h1, h2, h3, h4, by rw [rsum_same hx]; exact w⟩
end Go.Cen

/- CHAIN: heads, inputs. -/
set_option linter.unusedVariables false
set_option linter.unusedSimpArgs false
set_option maxRecDepth 100000
namespace Go.Cen
theorem dgx (s : ByteArray) : ∃ d, d = (sha_Of s).getD [] := ⟨_, rfl⟩
/-- a text's digest -/
noncomputable def dg (s : ByteArray) : List Int := Classical.choose (dgx s)
theorem dg_def (s : ByteArray) : dg s = (sha_Of s).getD [] := Classical.choose_spec (dgx s)
theorem dg_eq {s : ByteArray} (h : s.size ≤ 1000000000000) : sha_Of s = some (dg s) ∧ ref02_Of s = some (dg s) ∧ (dg s).length = 32 ∧ isB (dg s) := by
  obtain ⟨d, h1, h2, h3, h4⟩ := of_both h
  have : dg s = d := by rw [dg_def, h1]; rfl
  rw [this]
  exact ⟨h1, h2, h3, h4⟩
theorem putE_len {e : ApiEvent} (h : okE e) : (putE e).length ≤ 500000 := by
  have h1 := clampN_len e.Kind
  have h2 := parts_len e
  have h3 : ∀ (l : List Dyn88), (∀ d ∈ l, okD d) → (l.flatMap bytD).length ≤ 100008 * l.length := by
    intro l
    induction l with
    | nil => intro _; simp
    | cons d r ih =>
      intro hd
      have a := bytD_len (hd d (by simp))
      have b := ih (fun x hx => hd x (by simp [hx]))
      simp only [List.flatMap_cons, List.length_append, List.length_cons]; omega
  have h4 := h3 _ (parts_ok h)
  simp only [putE, List.length_append]; omega
noncomputable def nx (h : List Int) (e : ApiEvent) : List Int := dg (strOfNums (h ++ putE e))
theorem nx_ok {h : List Int} (hh : h.length = 32) {e : ApiEvent} (he : okE e) : (nx h e).length = 32 ∧ isB (nx h e) := by
  have := putE_len he
  obtain ⟨_, _, a, b⟩ := dg_eq (s := strOfNums (h ++ putE e)) (by rw [strOfNums_size, List.length_append]; omega)
  exact ⟨a, b⟩
theorem Link_eq {h : List Int} (hh : h.length = 32) {e : ApiEvent} (he : okE e) : sha_Link h (strOfNums (putE e)) = some (nx h e) ∧ ref02_Link h (strOfNums (putE e)) = some (nx h e) := by
  have hl := putE_len he
  obtain ⟨d, h1, h2, h3, h4, h5⟩ := link_both hh (a := strOfNums (putE e)) (by rw [strOfNums_size]; omega)
  rw [strOfNums_append] at h3
  have : nx h e = d := by unfold nx; rw [dg_def, h3]; rfl
  rw [this]
  exact ⟨h1, h2⟩
noncomputable def nextP (h : List Int) (e : ApiEvent) : List Int × Bool := if validE e then (nx h e, true) else (z32, false)
theorem Next_eq {h : List Int} (hh : h.length = 32) {e : ApiEvent} (he : okE e) : chain_Next h e = some (nextP h e) ∧ ref06_Next h e = some (nextP h e) := by
  unfold chain_Next ref06_Next nextP
  rw [event_Put_eq he, ref05_Put_eq he]
  unfold putR
  cases validE e with
  | false => exact ⟨rfl, rfl⟩
  | true =>
    simp only [if_true, Option.bind_some, Bool.not_true, Bool.false_eq_true, if_false, (Link_eq hh he).1, (Link_eq hh he).2, and_self]
def okL (l : List ApiEvent) : Prop := ∀ e ∈ l, okE e
def allV (l : List ApiEvent) : Bool := l.all validE
noncomputable def fin (h : List Int) (l : List ApiEvent) : List Int := l.foldl nx h
/-! ### all inputs, and heads -/
noncomputable def pairsP (xs hd : List Int) : List ApiEvent → List (List Int × List Int) × Bool
  | [] => ([(xs, hd)], true)
  | e :: r => if validE e then ((xs, hd) :: (pairsP (hd ++ putE e) (nx hd e) r).1, (pairsP (hd ++ putE e) (nx hd e) r).2) else ([(xs, hd)], false)
theorem bothY_eq (H : List (List Int)) (S : List ByteArray) (s : ByteArray) (h : List Int) (h1 : H.length ≤ 100000) (h2 : S.length ≤ 100000) : chain_both.y1 (H, S) s h = some (H ++ [h], S ++ [s]) := by
  have hL := LIM_val
  have a1 : S.length + ([s] : List ByteArray).length ≤ LIM := by simp; omega
  have a2 : H.length + ([h] : List (List Int)).length ≤ LIM := by simp; omega
  simp only [chain_both.y1, a1, a2, if_true]
theorem each_l0 {l : List ApiEvent} (hl : okL l) (hn : l.length ≤ 10000) : ∀ (r : List ApiEvent) (i k : Nat) (hd xs : List Int) (H : List (List Int)) (S : List ByteArray), l.drop i = r → i + r.length = l.length → r.length < k → hd.length = 32 →
    H.length + r.length ≤ 50000 → S.length + r.length ≤ 50000 → ∃ t, chain_each_1.l0 chain_both.y1 l k (i : Int) hd (H, S) (strOfNums xs) true = some (.inl ((H ++ (pairsP xs hd r).1.map Prod.snd, S ++ (pairsP xs hd r).1.map (fun p => strOfNums p.1)), t, (pairsP xs hd r).2))
  | [], i, k, hd, xs, H, S, e1, e2, hk, h32, hH, hS => by
    obtain ⟨k, rfl⟩ : ∃ m, k = m + 1 := ⟨k - 1, by omega⟩
    simp only [List.length_nil, Nat.add_zero] at e2 hH hS
    have hi : ((i : Int) == (l.length : Int)) = true := by rw [e2]; simp
    refine ⟨strOfNums xs, ?_⟩
    simp only [chain_each_1.l0, bothY_eq H S _ _ (by omega) (by omega), Option.bind_some, hi, if_true, pairsP, List.map_cons, List.map_nil]
  | e :: r, i, k, hd, xs, H, S, e1, e2, hk, h32, hH, hS => by
    obtain ⟨k, rfl⟩ : ∃ m, k = m + 1 := ⟨k - 1, by omega⟩
    simp only [List.length_cons] at e2 hH hS hk
    have hlt : i < l.length := by omega
    have hi : ((i : Int) == (l.length : Int)) = false := by simp; omega
    have hg : 0 ≤ (i : Int) ∧ (i : Int) < (l.length : Int) := ⟨by omega, by omega⟩
    have hcons : l.drop i = l[i] :: l.drop (i + 1) := List.drop_eq_getElem_cons hlt
    rw [hcons] at e1
    simp only [List.cons.injEq] at e1
    have hx : gt l (i : Int) = e := by rw [gt_nat l i hlt]; exact e1.1
    have he : okE e := hl e (by rw [← e1.1]; exact List.getElem_mem _)
    have hpl := putE_len he
    have hL := LIM_val
    have hw : wi64 ((i : Int) + 1) = ((i + 1 : Nat) : Int) := by rw [wi64_id (by omega)]; omega
    have hq : (strOfNums hd).size + (strOfNums (putE e)).size ≤ LIM := by rw [strOfNums_size, strOfNums_size]; omega
    simp only [chain_each_1.l0, bothY_eq H S _ _ (by omega) (by omega), Option.bind_some, hi, Bool.false_eq_true, if_false, hg, and_self, if_true, hx, event_Put_eq he, putR]
    cases hv : validE e with
    | false =>
      refine ⟨strOfNums xs, ?_⟩
      simp only [Bool.false_eq_true, if_false, Bool.not_false, if_true, pairsP, hv, List.map_cons, List.map_nil]
    | true =>
      have hsz : (strOfNums (hd ++ putE e)).size ≤ 1000000000000 := by rw [strOfNums_size, List.length_append]; omega
      have hdg := (dg_eq hsz).1
      obtain ⟨t, ht⟩ := each_l0 hl hn r (i + 1) k (nx hd e) (hd ++ putE e) (H ++ [hd]) (S ++ [strOfNums xs]) e1.2 (by omega) (by omega) (nx_ok h32 he).1 (by simp; omega) (by simp; omega)
      refine ⟨t, ?_⟩
      simp only [if_true, Bool.not_true, Bool.false_eq_true, if_false, hq, strOfNums_append, hdg, Option.bind_some, hw]
      refine Eq.trans ht ?_
      simp only [pairsP, hv, if_true, List.map_cons, List.append_assoc, List.singleton_append]
def c0 : List Int := [99, 101, 110, 111, 116, 97, 112, 104]
noncomputable def hd0 : List Int := dg (strOfNums c0)
theorem c0_eq : (⟨#[99, 101, 110, 111, 116, 97, 112, 104]⟩ : ByteArray) = strOfNums c0 := rfl
theorem hd0_eq : sha_Of (strOfNums c0) = some hd0 ∧ ref02_Of (strOfNums c0) = some hd0 ∧ hd0.length = 32 ∧ isB hd0 := dg_eq (by rw [strOfNums_size]; decide)
noncomputable def inp (xs hd : List Int) : List ApiEvent → List (List Int)
  | [] => [xs]
  | e :: r => xs :: inp (hd ++ putE e) (nx hd e) r
noncomputable def hds (hd : List Int) : List ApiEvent → List (List Int)
  | [] => [hd]
  | e :: r => hd :: hds (nx hd e) r
theorem pairs_eq : ∀ (l : List ApiEvent) (xs hd : List Int), (pairsP xs hd l).2 = allV l ∧ (allV l = true → (pairsP xs hd l).1.map Prod.snd = hds hd l ∧ (pairsP xs hd l).1.map (fun p => strOfNums p.1) = (inp xs hd l).map strOfNums)
  | [], xs, hd => ⟨rfl, fun _ => ⟨rfl, rfl⟩⟩
  | e :: r, xs, hd => by
    obtain ⟨h1, h2⟩ := pairs_eq r (hd ++ putE e) (nx hd e)
    simp only [pairsP, allV, List.all_cons, inp, hds]
    cases hv : validE e with
    | false => simp
    | true =>
      simp only [if_true, Bool.true_and, List.map_cons]
      refine ⟨h1, fun h => ?_⟩
      obtain ⟨a, b⟩ := h2 h
      exact ⟨by rw [a], by rw [b]⟩
theorem both_eq {l : List ApiEvent} (hl : okL l) (hn : l.length ≤ 10000) : chain_both l = some (if allV l then ((inp c0 hd0 l).map strOfNums, hds hd0 l) else ([], [])) := by
  unfold chain_both chain_each chain_each_1
  have hF : FU = 4611686018427387904 := rfl
  obtain ⟨t, ht⟩ := each_l0 hl hn l 0 FU hd0 c0 [] [] rfl (by omega) (by omega) hd0_eq.2.2.1 (by simp; omega) (by simp; omega)
  have ht' : chain_each_1.l0 chain_both.y1 l FU 0 hd0 ([], []) (strOfNums c0) true = _ := ht
  simp only [Option.bind_some, c0_eq, hd0_eq.1, ht', List.nil_append]
  obtain ⟨h1, h2⟩ := pairs_eq l c0 hd0
  rw [h1]
  cases hv : allV l with
  | false => simp
  | true =>
    obtain ⟨a, b⟩ := h2 hv
    simp only [Bool.not_true, Bool.false_eq_true, if_false, if_true, a, b]
theorem Heads_eq {l : List ApiEvent} (hl : okL l) (hn : l.length ≤ 10000) : chain_Heads l = some (if allV l then hds hd0 l else []) := by
  unfold chain_Heads
  rw [both_eq hl hn]
  cases allV l <;> rfl
/-! ### what heads are -/
theorem hds_len : ∀ (l : List ApiEvent) (h : List Int), (hds h l).length = l.length + 1
  | [], h => rfl
  | e :: r, h => by simp [hds, hds_len r]
theorem hds_get : ∀ (l : List ApiEvent) (h : List Int) (n : Nat), n ≤ l.length → (hds h l)[n]? = some (fin h (l.take n))
  | [], h, n, hn => by have : n = 0 := by simpa using hn
                       subst this; rfl
  | e :: r, h, 0, _ => rfl
  | e :: r, h, n + 1, hn => by
    have := hds_get r (nx h e) n (by simpa using hn)
    simpa [hds, fin] using this
theorem gt_some {α : Type} [Inhabited α] {xs : List α} {n : Nat} {v : α} (h : xs[n]? = some v) : gt xs (n : Int) = v := by simp [gt, List.getD_eq_getElem?_getD, h]
end Go.Cen

/- CHAIN: Collide, Few, the examples. -/
set_option linter.unusedVariables false
set_option linter.unusedSimpArgs false
set_option maxRecDepth 100000
namespace Go.Cen
/-! ### how many are looked at -/
def fewE (l : List ApiEvent) : Bool := (l.take 21).all (fun e => decide (e.Name.size ≤ 100)) && decide (l.length ≤ 20)
theorem few_l0 (l : List ApiEvent) : ∀ (d i k : Nat), d + i = 21 → i ≤ l.length → d < k → law06_Few.l0 l k (i : Int) = some (if ((l.drop i).take d).all (fun e => decide (e.Name.size ≤ 100)) = true then .inr () else .inl false) := by
  intro d
  induction d with
  | zero =>
    intro i k h1 h2 h3
    obtain ⟨k, rfl⟩ : ∃ m, k = m + 1 := ⟨k - 1, by omega⟩
    have hi : i = 21 := by omega
    subst hi
    by_cases h : (21 : Nat) < l.length
    · have hd : decide ((((21 : Nat)) : Int) < (l.length : Int)) = true := by simp; omega
      have : decide ((((21 : Nat)) : Int) ≤ 20) = false := by decide
      simp [law06_Few.l0, hd, this]
    · have hd : decide ((((21 : Nat)) : Int) < (l.length : Int)) = false := by simp; omega
      simp [law06_Few.l0, hd]
  | succ d ih =>
    intro i k h1 h2 h3
    obtain ⟨k, rfl⟩ : ∃ m, k = m + 1 := ⟨k - 1, by omega⟩
    by_cases h : i < l.length
    · have hd : decide ((i : Int) < (l.length : Int)) = true := by simp; omega
      have h20 : decide ((i : Int) ≤ 20) = true := by simp; omega
      have hg : 0 ≤ (i : Int) ∧ (i : Int) < (l.length : Int) := ⟨by omega, by omega⟩
      have hw : wi64 ((i : Int) + 1) = ((i + 1 : Nat) : Int) := by rw [wi64_id (by omega)]; omega
      have hcons : l.drop i = l[i] :: l.drop (i + 1) := List.drop_eq_getElem_cons h
      simp only [law06_Few.l0, hd, h20, if_true, Option.bind_some, hg, and_self, gt_nat l i h, hw]
      rw [ih (i + 1) k (by omega) (by omega) (by omega), hcons]
      simp only [List.take_succ_cons, List.all_cons]
      by_cases q : (l[i].Name.size : Int) > 100
      · have q' : ¬ l[i].Name.size ≤ 100 := by omega
        simp [q, q']
      · have q' : l[i].Name.size ≤ 100 := by omega
        simp [q, q']
    · have hd : decide ((i : Int) < (l.length : Int)) = false := by simp; omega
      have hz : l.drop i = [] := List.drop_eq_nil_iff.2 (by omega)
      simp only [law06_Few.l0, hd, hz]
      simp
theorem Few_eq (l : List ApiEvent) : law06_Few l = some (fewE l) := by
  have hF : FU = 4611686018427387904 := rfl
  have := few_l0 l 21 0 FU (by omega) (by omega) (by omega)
  unfold law06_Few fewE
  rw [show law06_Few.l0 l FU 0 = _ from this]
  simp only [List.drop_zero, Option.bind_some]
  cases (l.take 21).all (fun e => decide (e.Name.size ≤ 100)) with
  | false => rfl
  | true =>
    simp only [if_true, Bool.true_and, Option.some.injEq]
    by_cases h : l.length ≤ 20
    · have : (l.length : Int) ≤ 20 := by omega
      simp [h, this]
    · have : ¬ (l.length : Int) ≤ 20 := by omega
      simp [h, this]
def sumsOk (l : List ApiEvent) : Prop := ∀ e ∈ l, e.Sum.length = 32 ∧ isB e.Sum
theorem few_ok {l : List ApiEvent} (hs : sumsOk l) (h : fewE l = true) : okL l ∧ l.length ≤ 20 := by
  simp only [fewE, Bool.and_eq_true, decide_eq_true_eq] at h
  refine ⟨fun e he => ?_, h.2⟩
  have ht : l.take 21 = l := List.take_of_length_le (by omega)
  rw [ht] at h
  have := List.all_eq_true.1 h.1 e he
  simp only [decide_eq_true_eq] at this
  exact ⟨by omega, hs e he⟩
/-! ### from behind on -/
/-! ### the examples -/
end Go.Cen

/- CHAIN: the laws on heads. -/
set_option linter.unusedVariables false
set_option linter.unusedSimpArgs false
set_option maxRecDepth 100000
namespace Go.Cen
/-! ### two rows of one head -/
theorem Same_eq {a b : List ApiEvent} (h : a.length ≤ 100000) : ∃ r, ref05_Same a b = some r ∧ (r = true ↔ a = b) := by
  unfold ref05_Same
  by_cases hl : a.length = b.length
  · have hz : (((a.length : Nat) : Int) != (b.length : Int)) = false := by rw [hl]; simp
    rw [hz]
    have := loop_eq a b hl (by omega) eq_ApiEvent (fun k i => ref05_Same.l0 a b k i)
      (fun k hd => by simp only [ref05_Same.l0, hd]; rfl)
      (fun k i hi hd hg hg2 hw => by
        simp only [ref05_Same.l0, hd, if_true, hg, hg2, and_self, hw]
        cases eq_ApiEvent (gt a (i : Int)) (gt b (i : Int)) <;> simp)
    rw [show ref05_Same.l0 a b FU 0 = _ from this]
    have hz := zip_all_eq eq_ApiEvent eq_event_iff a b hl
    by_cases q : (a.zip b).all (fun p => eq_ApiEvent p.1 p.2) = true
    · rw [if_pos q]
      exact ⟨true, rfl, by simp [hz.1 q]⟩
    · rw [if_neg q]
      exact ⟨false, rfl, by simp; exact fun h => q (hz.2 h)⟩
  · have hz : (((a.length : Nat) : Int) != (b.length : Int)) = true := by simp; omega
    have : a ≠ b := fun h => hl (by rw [h])
    exact ⟨false, by simp [hz], by simp [this]⟩
end Go.Cen

/- BUNDLE: what any bytes are, by the document. -/
set_option linter.unusedVariables false
set_option linter.unusedSimpArgs false
set_option maxRecDepth 100000
namespace Go.Cen
/-! ### alike -/
theorem sEqual_eq {a b : List ApiEvent} (h : a.length ≤ 100000) : ∃ r, slices_Equal_apiEvent a b = some r ∧ (r = true ↔ a = b) := by
  unfold slices_Equal_apiEvent
  by_cases hl : a.length = b.length
  · have hz : (((a.length : Nat) : Int) != (b.length : Int)) = false := by rw [hl]; simp
    rw [hz]
    have := loop_eq a b hl (by omega) eq_ApiEvent (fun k i => slices_Equal_apiEvent.l0 a b k i)
      (fun k hd => by simp only [slices_Equal_apiEvent.l0, hd]; rfl)
      (fun k i hi hd hg hg2 hw => by
        simp only [slices_Equal_apiEvent.l0, hd, if_true, hg, hg2, and_self, hw]
        cases eq_ApiEvent (gt a (i : Int)) (gt b (i : Int)) <;> simp)
    rw [show slices_Equal_apiEvent.l0 a b FU 0 = _ from this]
    have hz := zip_all_eq eq_ApiEvent eq_event_iff a b hl
    by_cases q : (a.zip b).all (fun p => eq_ApiEvent p.1 p.2) = true
    · rw [if_pos q]
      exact ⟨true, rfl, by simp [hz.1 q]⟩
    · rw [if_neg q]
      exact ⟨false, rfl, by simp; exact fun h => q (hz.2 h)⟩
  · have hz : (((a.length : Nat) : Int) != (b.length : Int)) = true := by simp; omega
    have : a ≠ b := fun h => hl (by rw [h])
    exact ⟨false, by simp [hz], by simp [this]⟩
theorem bSame_eq {f g : Int} {h k : List Int} {a b : List ApiEvent} (hn : a.length ≤ 100000) : ∃ r, bundle_Same f h a g k b = some r ∧ ref11_Same f h a g k b = some r ∧ (r = true ↔ f = g ∧ h = k ∧ a = b) := by
  obtain ⟨r, r1, r2⟩ := sEqual_eq (a := a) (b := b) hn
  obtain ⟨s, s1, s2⟩ := Same_eq (a := a) (b := b) hn
  have hrs : r = s := by rw [Bool.eq_iff_iff, r2, s2]
  subst hrs
  unfold bundle_Same ref11_Same
  rw [r1, s1]
  by_cases c : f = g
  · have d : (f == g) = true := by simp [c]
    simp only [d, if_true]
    by_cases c2 : h = k
    · have d2 : eqA h k = true := (eqA_iff h k).2 c2
      simp only [d2, if_true, Option.bind_some]
      exact ⟨r, rfl, rfl, by rw [r2]; simp [c, c2]⟩
    · have d2 : eqA h k = false := by rw [← Bool.not_eq_true, eqA_iff]; exact c2
      simp only [d2, Bool.false_eq_true, if_false, Option.bind_some]
      exact ⟨false, rfl, rfl, by simp [c2]⟩
  · have d : (f == g) = false := by simp [c]
    simp only [d, Bool.false_eq_true, if_false, Option.bind_some]
    exact ⟨false, rfl, rfl, by simp [c]⟩
theorem bSame_self {f : Int} {h : List Int} {a : List ApiEvent} (hn : a.length ≤ 100000) : bundle_Same f h a f h a = some true ∧ ref11_Same f h a f h a = some true := by
  obtain ⟨r, h1, h2, h3⟩ := bSame_eq (f := f) (g := f) (h := h) (k := h) (a := a) (b := a) hn
  have : r = true := h3.2 ⟨rfl, rfl, rfl⟩
  subst this
  exact ⟨h1, h2⟩
/-! ### handed out -/
noncomputable def expP (l : List ApiEvent) (a b : Int) : Int × List Int × List ApiEvent × Bool :=
  if 0 ≤ a ∧ a ≤ b ∧ b ≤ (l.length : Int) ∧ allV l = true then (a, fin hd0 (l.take a.toNat), sub l a b, true) else (0, z32, [], false)
theorem Export_eq {l : List ApiEvent} (hl : okL l) (hn : l.length ≤ 400) (a b : Int) : bundle_Export l a b = some (expP l a b) := by
  have hL := LIM_val
  unfold bundle_Export expP
  by_cases c0 : a < 0
  · have : ¬ 0 ≤ a := by omega
    simp only [c0, decide_true, if_true, Option.bind_some, this, false_and, if_false]
    rfl
  · have d0 : decide (a < 0) = false := by simpa using c0
    have p0 : 0 ≤ a := by omega
    by_cases c1 : b < a
    · have : ¬ a ≤ b := by omega
      simp only [d0, Bool.false_eq_true, if_false, c1, decide_true, if_true, Option.bind_some, this, false_and, and_false]
      rfl
    · have d1 : decide (b < a) = false := by simpa using c1
      have p1 : a ≤ b := by omega
      by_cases c2 : b > (l.length : Int)
      · have : ¬ b ≤ (l.length : Int) := by omega
        simp only [d0, d1, Bool.false_eq_true, if_false, c2, decide_true, if_true, Option.bind_some, this, false_and, and_false]
        rfl
      · have d2 : decide (b > (l.length : Int)) = false := by simpa using c2
        have d3 : decide ((l.length : Int) > 400) = false := by simp; omega
        have p2 : b ≤ (l.length : Int) := by omega
        simp only [d0, d1, d2, d3, Bool.false_eq_true, if_false, Option.bind_some, Heads_eq hl (show l.length ≤ 10000 by omega), p0, p1, p2, true_and]
        cases hv : allV l with
        | false => simp; rfl
        | true =>
          have hlen := hds_len l hd0
          have z : (((hds hd0 l).length : Int) == 0) = false := by rw [hlen]; simp; omega
          obtain ⟨n, rfl⟩ := Int.eq_ofNat_of_zero_le p0
          have hg : gt (hds hd0 l) (n : Int) = fin hd0 (l.take n) := gt_some (hds_get l hd0 n (by omega))
          have hs : (sub l (n : Int) b).length ≤ l.length := by simp only [sub, List.length_drop, List.length_take]; omega
          simp only [if_true, z, Bool.false_eq_true, if_false, hg, Int.toNat_natCast]
          rw [if_pos (by rw [hlen]; omega)]
          unfold slices_Clone_apiEvent
          rw [if_pos (by simp only [List.length_nil]; omega)]
          rfl
theorem rHeads_l0 {l : List ApiEvent} (hl : okL l) (hn : l.length ≤ 10000) : ∀ (r : List ApiEvent) (i k : Nat) (h : List Int) (acc : List (List Int)), l.drop i = r → i + r.length = l.length → r.length < k → h.length = 32 → isB h → acc.length ≤ i + 1 →
    ∃ z, ref06_Heads.l0 l k (acc ++ [h]) (i : Int) h = some z ∧ (match z with | .inl v => v | .inr v => v) = if allV r = true then acc ++ hds h r else []
  | [], i, k, h, acc, e, e2, hk, h32, hB, ha => by
    obtain ⟨k, rfl⟩ : ∃ q, k = q + 1 := ⟨k - 1, by omega⟩
    simp only [List.length_nil] at e2
    have d : decide ((i : Int) < (l.length : Int)) = false := by simp; omega
    exact ⟨.inr (acc ++ [h]), by simp only [ref06_Heads.l0, d, Bool.false_eq_true, if_false], by simp [allV, hds]⟩
  | v :: r, i, k, h, acc, e, e2, hk, h32, hB, ha => by
    have hL := LIM_val
    obtain ⟨k, rfl⟩ : ∃ q, k = q + 1 := ⟨k - 1, by omega⟩
    simp only [List.length_cons] at e2 hk
    have hi : i < l.length := by omega
    have d : decide ((i : Int) < (l.length : Int)) = true := by simp; omega
    have hw : wi64 ((i : Int) + 1) = ((i + 1 : Nat) : Int) := by rw [wi64_id (by omega)]; omega
    rw [List.drop_eq_getElem_cons hi] at e
    simp only [List.cons.injEq] at e
    have hv1 : okE v := by rw [← e.1]; exact hl _ (List.getElem_mem hi)
    have hg : gt l (i : Int) = v := by rw [gt_nat l i hi]; exact e.1
    simp only [ref06_Heads.l0, d, if_true, hg]
    rw [if_pos (by omega), (Next_eq h32 hv1).2]
    unfold nextP
    cases hv : validE v with
    | false =>
      refine ⟨.inl [], ?_, by simp [allV, hv]⟩
      simp
    | true =>
      obtain ⟨n1, n2⟩ := nx_ok h32 hv1
      obtain ⟨z, z1, z2⟩ := rHeads_l0 hl hn r (i + 1) k (nx h v) (acc ++ [h]) e.2 (by omega) (by omega) n1 n2 (by simp only [List.length_append, List.length_cons, List.length_nil]; omega)
      refine ⟨z, ?_, ?_⟩
      · simp only [if_true, Option.bind_some, Bool.not_true, Bool.false_eq_true, if_false, hw]
        rw [if_pos (by simp only [List.length_append, List.length_cons, List.length_nil]; omega)]
        exact z1
      · rw [z2]; simp [allV, hv, hds]
theorem rHeads_eq {l : List ApiEvent} (hl : okL l) (hn : l.length ≤ 10000) : ref06_Heads l = some (if allV l = true then hds hd0 l else []) := by
  have hF : FU = 4611686018427387904 := rfl
  unfold ref06_Heads ref06_Start
  rw [c0_eq, hd0_eq.2.1]
  simp only [Option.bind_some]
  obtain ⟨z, z1, z2⟩ := rHeads_l0 hl hn l 0 FU hd0 [] rfl (by omega) (by omega) hd0_eq.2.2.1 hd0_eq.2.2.2 (by simp)
  rw [show ref06_Heads.l0 l FU [hd0] 0 hd0 = some z from z1]
  cases z with
  | inl v => simpa using z2
  | inr v => simpa using z2
theorem rExport_eq {l : List ApiEvent} (hl : okL l) (hn : l.length ≤ 400) (a b : Int) : ref11_Export l a b = some (expP l a b) := by
  unfold ref11_Export expP
  rw [rHeads_eq hl (by omega)]
  simp only [Option.bind_some]
  by_cases c0 : a < 0
  · have : ¬ 0 ≤ a := by omega
    simp only [c0, decide_true, if_true, Option.bind_some, this, false_and, if_false]
    rfl
  · have d0 : decide (a < 0) = false := by simpa using c0
    have p0 : 0 ≤ a := by omega
    by_cases c1 : b < a
    · have : ¬ a ≤ b := by omega
      simp only [d0, Bool.false_eq_true, if_false, c1, decide_true, if_true, Option.bind_some, this, false_and, and_false]
      rfl
    · have d1 : decide (b < a) = false := by simpa using c1
      have p1 : a ≤ b := by omega
      by_cases c2 : b > (l.length : Int)
      · have : ¬ b ≤ (l.length : Int) := by omega
        simp only [d0, d1, Bool.false_eq_true, if_false, c2, decide_true, if_true, Option.bind_some, this, false_and, and_false]
        rfl
      · have d2 : decide (b > (l.length : Int)) = false := by simpa using c2
        have d3 : decide ((l.length : Int) > 400) = false := by simp; omega
        have p2 : b ≤ (l.length : Int) := by omega
        simp only [d0, d1, d2, d3, Bool.false_eq_true, if_false, Option.bind_some, p0, p1, p2, true_and]
        cases hv : allV l with
        | false => simp; rfl
        | true =>
          have hlen := hds_len l hd0
          have z : (((hds hd0 l).length : Int) == 0) = false := by rw [hlen]; simp; omega
          obtain ⟨n, rfl⟩ := Int.eq_ofNat_of_zero_le p0
          have hg : gt (hds hd0 l) (n : Int) = fin hd0 (l.take n) := gt_some (hds_get l hd0 n (by omega))
          simp only [if_true, z, Bool.false_eq_true, if_false, hg, Int.toNat_natCast]
          rw [if_pos (by rw [hlen]; omega)]
end Go.Cen

/- BUNDLE: the examples, reckoned. -/
set_option linter.unusedVariables false
set_option maxRecDepth 100000
namespace Go.Cen
theorem works11k : law11_works = some true := by decide +kernel
end Go.Cen

/- BUNDLE: the laws Puts, Gets, Exports. -/
set_option linter.unusedVariables false
set_option linter.unusedSimpArgs false
set_option maxRecDepth 100000
namespace Go.Cen
theorem law11_BundleExports_eq (l : List ApiEvent) (a b : Int) (hs : sumsOk l) : law11_BundleExports l a b = some true := by
  unfold law11_BundleExports
  rw [works11k]
  simp only [Option.bind_some, Bool.not_true, Bool.false_eq_true, if_false, Few_eq]
  cases f1 : fewE l with
  | false => rfl
  | true =>
    obtain ⟨o1, n1⟩ := few_ok hs f1
    simp only [Bool.not_true, Bool.false_eq_true, if_false, Export_eq o1 (show l.length ≤ 400 by omega), rExport_eq o1 (show l.length ≤ 400 by omega), Option.bind_some]
    rcases hE : expP l a b with ⟨x, y, z, w⟩
    have hl : z.length ≤ 100000 := by
      unfold expP at hE
      split at hE
      · cases hE; simp only [sub, List.length_take, List.length_drop]; omega
      · cases hE; simp
    have := (bSame_self (f := x) (h := y) (a := z) hl).2
    simp only [Option.bind_some, law11_Of, this, if_true, BEq.rfl]
end Go.Cen
