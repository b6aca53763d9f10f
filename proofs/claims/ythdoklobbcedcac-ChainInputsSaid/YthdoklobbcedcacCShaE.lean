/- SHA: the digest of any text, both ways; a digest's digits. -/
import Derived.Test.YthdoklobbcedcacEvA
import Derived.Test.YthdoklobbcedcacPx
import Derived.Test.YthdoklobbcedcacCenPl
import Derived.Test.YthdoklobbcedcacCUtf8A
set_option linter.unusedVariables false
set_option linter.unusedSimpArgs false
set_option maxRecDepth 100000
namespace Go.Cen
theorem gt_sub (xs : List Int) {a b j : Int} (ha : 0 ≤ a) (hj : 0 ≤ j) (hb : a + j < b) : gt (sub xs a b) j = gt xs (a + j) := by
  simp only [gt, sub, List.getD_eq_getElem?_getD, List.getElem?_take, List.getElem?_drop]
  rw [if_pos (by omega), show a.toNat + j.toNat = (a + j).toNat by omega]
theorem size_sx (s : ByteArray) {a b : Int} (h : 0 ≤ a ∧ a ≤ b ∧ b ≤ (s.size : Int)) : ((sx s a b).size : Int) = b - a := by
  have := congrArg List.length (sx_byts s h)
  rw [byts_length, sub_length (byts s) (by rw [byts_length]; exact h)] at this
  omega
theorem of_step (K : List Int) {p : ByteArray} (hm : (p.size : Int) ≤ 4611686018427387904 - 64) : ∀ (n : Nat) (off : Int) (q : ByteArray) (k k' : Nat) (x : List Int), 0 ≤ off → (p.size : Int) = off + 64 * n → byts q = sub (byts p) off p.size → n < k → n < k' → x.length = 8 → (∀ y ∈ x, u32 y) →
    ∃ r, sha_Of.l0 K k q x = some r ∧ ref02_Of.l0 p K k' off x = some r ∧ r.length = 8 ∧ ∀ y ∈ r, u32 y := by
  intro n
  induction n with
  | zero =>
    intro off q k k' x h0 hp hq hk hk' hx hu
    obtain ⟨k, rfl⟩ : ∃ m, k = m + 1 := ⟨k - 1, by omega⟩
    obtain ⟨k', rfl⟩ : ∃ m, k' = m + 1 := ⟨k' - 1, by omega⟩
    have hl := congrArg List.length hq
    rw [byts_length, sub_length (byts p) (by rw [byts_length]; omega)] at hl
    have d1 : decide ((q.size : Int) > 0) = false := decide_eq_false (by omega)
    have d2 : decide (off < (p.size : Int)) = false := by simp; omega
    simp only [sha_Of.l0, ref02_Of.l0, d1, d2, Bool.false_eq_true, if_false]
    exact ⟨x, rfl, rfl, hx, hu⟩
  | succ n ih =>
    intro off q k k' x h0 hp hq hk hk' hx hu
    obtain ⟨k, rfl⟩ : ∃ m, k = m + 1 := ⟨k - 1, by omega⟩
    obtain ⟨k', rfl⟩ : ∃ m, k' = m + 1 := ⟨k' - 1, by omega⟩
    have hl := congrArg List.length hq
    rw [byts_length, sub_length (byts p) (by rw [byts_length]; omega)] at hl
    have hqs : (q.size : Int) = p.size - off := by omega
    have d1 : decide ((q.size : Int) > 0) = true := decide_eq_true (by omega)
    have d2 : decide (off < (p.size : Int)) = true := by simp; omega
    have g1 : (0 : Int) ≤ 0 ∧ (0 : Int) ≤ 64 ∧ (64 : Int) ≤ (q.size : Int) := ⟨by omega, by omega, by omega⟩
    have g2 : (0 : Int) ≤ 64 ∧ (64 : Int) ≤ (q.size : Int) ∧ (q.size : Int) ≤ (q.size : Int) := ⟨by omega, by omega, by omega⟩
    have hblk := sx_byts q g1
    have hblks := size_sx q g1
    have hrest := sx_byts q g2
    obtain ⟨ws, y, r1, w1, w2, w3, w4, w5, w6⟩ := block_both K (blk := sx q 0 64) (p := p) (off := off) (x := x) (by omega) h0 (by omega) (by omega) (fun j j0 j1 => by
      rw [bt_eq, bt_eq, hblk, gt_sub _ (by omega) j0 (by omega), hq, gt_sub _ h0 (by omega) (by omega)]
      simp) hx hu
    have e1 : wi64 (off + 64) = off + 64 := wi64_id (by omega)
    obtain ⟨r, h1, h2, h3, h4⟩ := ih (off + 64) (sx q 64 q.size) k k' r1 (by omega) (by omega) (by
      rw [hrest, hq]
      simp only [sub, List.drop_take, List.drop_drop, List.take_take]
      rw [show off.toNat + (64 : Int).toNat = (off + 64).toNat by omega]
      congr 1
      omega) (by omega) (by omega) w5 w6
    refine ⟨r, ?_, ?_, h3, h4⟩
    · simp only [sha_Of.l0, d1, if_true, g1, g2, and_self, w4, Option.bind_some]
      exact h1
    · simp only [ref02_Of.l0, d2, if_true, w1, w2, w3, Option.bind_some, e1]
      exact h2
theorem ref_l6 : ∀ (n : Nat) (v : Nat) (i : Int) (k : Nat), i = 3 - n → n ≤ 3 → n < k → v < 4294967296 → ref02_Of.l6 k (v : Int) i = some ((v / 256 ^ n : Nat) : Int) := by
  intro n
  induction n with
  | zero =>
    intro v i k hi _ hk hv
    obtain ⟨k, rfl⟩ : ∃ m, k = m + 1 := ⟨k - 1, by omega⟩
    have d : decide (i < 3) = false := by simp; omega
    simp [ref02_Of.l6, d]
  | succ n ih =>
    intro v i k hi hn hk hv
    obtain ⟨k, rfl⟩ : ∃ m, k = m + 1 := ⟨k - 1, by omega⟩
    have d : decide (i < 3) = true := by simp; omega
    have e1 : wi64 (i + 1) = i + 1 := wi64_id (by omega)
    have e2 : wu32 ((v : Int).tdiv 256) = ((v / 256 : Nat) : Int) := by rw [Int.tdiv_eq_ediv_of_nonneg (by omega), wu32_eq]; omega
    simp only [ref02_Of.l6, d, if_true, e1, e2]
    rw [ih (v / 256) (i + 1) k (by omega) (by omega) (by omega) (by omega), Nat.div_div_eq_div_mul, ← Nat.pow_succ']
theorem out_step {h : List Int} (hu : ∀ y ∈ h, u32 y) : ∀ (n : Nat) (i : Int) (k k' : Nat) (x : List Int), i = 32 - n → n ≤ 32 → n < k → n < k' → x.length = 32 → isB x →
    ∃ r, sha_Of.l1 h k i x = some r ∧ ref02_Of.l5 h k' i x = some r ∧ r.length = 32 ∧ isB r := by
  intro n
  induction n with
  | zero =>
    intro i k k' x hi _ hk hk' hx hb
    obtain ⟨k, rfl⟩ : ∃ m, k = m + 1 := ⟨k - 1, by omega⟩
    obtain ⟨k', rfl⟩ : ∃ m, k' = m + 1 := ⟨k' - 1, by omega⟩
    have : decide (i < 32) = false := by simp; omega
    simp only [sha_Of.l1, ref02_Of.l5, this, Bool.false_eq_true, if_false]
    exact ⟨x, rfl, rfl, hx, hb⟩
  | succ n ih =>
    intro i k k' x hi hd hk hk' hx hb
    obtain ⟨k, rfl⟩ : ∃ m, k = m + 1 := ⟨k - 1, by omega⟩
    obtain ⟨k', rfl⟩ : ∃ m, k' = m + 1 := ⟨k' - 1, by omega⟩
    have hlt : decide (i < 32) = true := by simp; omega
    have e1 : wi64 (i + 1) = i + 1 := wi64_id (by omega)
    have gi : 0 ≤ i ∧ i < 32 := ⟨by omega, by omega⟩
    have q1 : wi64 (i.tdiv 4) = i / 4 := by rw [Int.tdiv_eq_ediv_of_nonneg gi.1, wi64_id (by omega)]
    have q2 : i.tmod 4 = i % 4 := Int.tmod_eq_emod_of_nonneg gi.1
    have gq : 0 ≤ i / 4 ∧ i / 4 < 8 := by omega
    have q3 : wi64 (8 * (i % 4)) = 8 * (i % 4) := wi64_id (by omega)
    have q4 : wi64 (24 - 8 * (i % 4)) = 24 - 8 * (i % 4) := wi64_id (by omega)
    have gs : 0 ≤ 24 - 8 * (i % 4) := by omega
    have hg := gt_all hu u32_0 (i / 4)
    obtain ⟨v, hv⟩ := Int.eq_ofNat_of_zero_le hg.1
    have hvl : v < 4294967296 := by have := hg.2; omega
    obtain ⟨t, ht, ht3⟩ : ∃ t : Nat, i % 4 = 3 - (t : Int) ∧ t ≤ 3 := ⟨(3 - i % 4).toNat, by omega, by omega⟩
    have hs : wu8 (bShr .u32 (gt h (i / 4)) (24 - 8 * (i % 4))) = ((v / 256 ^ t % 256 : Nat) : Int) := by
      have := bShr_eq (k := .u32) (x := (v : Int)) (n := 8 * t) (by show 8 * t ≤ 32; omega)
      rw [show ((8 * t : Nat) : Int) = 24 - 8 * (i % 4) by omega] at this
      rw [hv, this, wu8_eq, Int.natCast_emod, Int.natCast_ediv, Int.natCast_pow]
      rw [show (2 : Int) ^ (8 * t) = (256 : Int) ^ t by rw [Int.pow_mul]; rfl]
      rfl
    have hr := ref_l6 t v (i % 4) FU (by omega) ht3 (by simp [FU]; omega) hvl
    have hmod : wu8 (((v / 256 ^ t : Nat) : Int).tmod 256) = ((v / 256 ^ t % 256 : Nat) : Int) := by
      generalize v / 256 ^ t = z
      rw [Int.tmod_eq_emod_of_nonneg (by omega), wu8_eq]; omega
    have hbv : 0 ≤ ((v / 256 ^ t % 256 : Nat) : Int) ∧ ((v / 256 ^ t % 256 : Nat) : Int) < 256 := by
      generalize v / 256 ^ t = z
      omega
    obtain ⟨r, h1, h2, h3, h4⟩ := ih (i + 1) k k' (st x i ((v / 256 ^ t % 256 : Nat) : Int)) (by omega) (by omega) (by omega) (by omega) (by rw [st_length, hx]) (st_all hb hbv)
    refine ⟨r, ?_, ?_, h3, h4⟩
    · simp only [sha_Of.l1, hlt, if_true, q1, q2, gq, and_self, q3, q4, gs, gi, e1, hs]; exact h1
    · simp only [ref02_Of.l5, hlt, if_true, q1, q2, gq, and_self, gi, e1, hv, hr, Option.bind_some, hmod]; exact h2
def K8 : List Int := [1779033703, 3144134277, 1013904242, 2773480762, 1359893119, 2600822924, 528734635, 1541459225]
def K64 : List Int := ref02_cubes.getD []
theorem roots_eq : ref02_roots = some K8 := rfl
theorem cubes_eq : ref02_cubes = some K64 := rfl
set_option maxRecDepth 1000000 in
theorem constants_eq : sha_constants = some (K8, K64) := by decide +kernel
/-- THE DIGEST OF ANY TEXT: both alike. -/
theorem of_both {a : ByteArray} (ha : a.size ≤ 1000000000000) : ∃ d, sha_Of a = some d ∧ ref02_Of a = some d ∧ d.length = 32 ∧ isB d := by
  obtain ⟨hp, hp'⟩ := pad_both ha
  have hB := padL_isB (byts_isB a)
  have hsz : (strOfNums (padL (byts a))).size = (padL (byts a)).length := strOfNums_size _
  have hlen := padL_length (byts a)
  have hb := byts_length a
  have hz := (padN_facts (byts a).length).1
  have hmod := padL_mod (byts a)
  obtain ⟨r, h1, h2, h3, h4⟩ := of_step K64 (p := strOfNums (padL (byts a))) (by rw [hsz]; omega) ((padL (byts a)).length / 64) 0 (strOfNums (padL (byts a))) FU FU K8 (by omega) (by rw [hsz]; omega)
    (by rw [hsz, byts_strOfNums hB]; simp [sub]) (by simp [FU]; omega) (by simp [FU]; omega) rfl (by intro y hy; simp only [K8, List.mem_cons, List.not_mem_nil, or_false] at hy; rcases hy with rfl | rfl | rfl | rfl | rfl | rfl | rfl | rfl <;> exact ⟨by decide, by decide⟩)
  obtain ⟨d, d1, d2, d3, d4⟩ := out_step h4 32 0 FU FU (List.replicate 32 (0 : Int)) (by omega) (by omega) (by simp [FU]) (by simp [FU]) (by simp) (fun x hx => by rw [List.eq_of_mem_replicate hx]; omega)
  refine ⟨d, ?_, ?_, d3, d4⟩
  · unfold sha_Of
    rw [constants_eq]; simp only [Option.bind_some]
    rw [hp]; simp only [Option.bind_some]
    rw [h1]; simp only [Option.bind_some]
    rw [d1]; rfl
  · unfold ref02_Of
    rw [roots_eq, cubes_eq]; simp only [Option.bind_some]
    rw [hp']; simp only [Option.bind_some]
    rw [h2]; simp only [Option.bind_some]
    rw [d2]; rfl
end Go.Cen

/- SHA: a digest's digits; links. -/
set_option linter.unusedVariables false
set_option linter.unusedSimpArgs false
set_option maxRecDepth 100000
namespace Go.Cen
theorem drop_gt (d : List Int) {i : Int} (h0 : 0 ≤ i) (h : i < d.length) : d.drop i.toNat = gt d i :: d.drop (i + 1).toNat := by
  obtain ⟨hl, e⟩ := gt_lt d h0 h
  rw [e, List.drop_eq_getElem_cons hl, show (i + 1).toNat = i.toNat + 1 by omega]
theorem bytes_step {d : List Int} (hd : d.length = 32) : ∀ (n : Nat) (i : Int) (k : Nat) (acc : List Int), i = 32 - n → n ≤ 32 → n < k → acc.length ≤ 32 - n → ref02_Bytes.l0 d k acc i = some (acc ++ d.drop i.toNat) := by
  intro n
  induction n with
  | zero =>
    intro i k acc hi _ hk _
    obtain ⟨k, rfl⟩ : ∃ m, k = m + 1 := ⟨k - 1, by omega⟩
    have : decide (i < 32) = false := decide_eq_false (by omega)
    have e : d.drop i.toNat = [] := List.drop_of_length_le (by omega)
    simp [ref02_Bytes.l0, this, e]
  | succ n ih =>
    intro i k acc hi hn hk hl
    obtain ⟨k, rfl⟩ : ∃ m, k = m + 1 := ⟨k - 1, by omega⟩
    have hlt : decide (i < 32) = true := decide_eq_true (by omega)
    have e1 : wi64 (i + 1) = i + 1 := wi64_id (by omega)
    have gi : 0 ≤ i ∧ i < 32 := ⟨by omega, by omega⟩
    have gl : acc.length + ([gt d i] : List Int).length ≤ LIM := by simp [LIM]; omega
    rw [drop_gt d gi.1 (by omega)]
    simp only [ref02_Bytes.l0, hlt, if_true, gi, and_self, e1, gl]
    rw [ih (i + 1) k _ (by omega) (by omega) (by omega) (by simp; omega)]
    simp
theorem ref_bytes {d : List Int} (hd : d.length = 32) : ref02_Bytes d = some (strOfNums d) := by
  unfold ref02_Bytes
  rw [bytes_step hd 32 0 FU [] (by omega) (by omega) (by simp [FU]) (by simp)]
  simp
theorem link_both {d : List Int} (hd : d.length = 32) {a : ByteArray} (ha : a.size ≤ 900000000000) : ∃ e, sha_Link d a = some e ∧ ref02_Link d a = some e ∧ sha_Of (strOfNums d ++ a) = some e ∧ e.length = 32 ∧ isB e := by
  have hs : (strOfNums d).size = 32 := by rw [strOfNums_size, hd]
  obtain ⟨e, h1, h2, h3, h4⟩ := of_both (a := strOfNums d ++ a) (by rw [ByteArray.size_append, hs]; omega)
  have g : (strOfNums d).size + a.size ≤ LIM := by rw [hs]; simp [LIM]; omega
  refine ⟨e, ?_, ?_, h1, h3, h4⟩
  · unfold sha_Link; rw [if_pos g, h1]; rfl
  · unfold ref02_Link; rw [ref_bytes hd]; simp only [Option.bind_some]; rw [if_pos g, h2]; rfl
end Go.Cen

/- SHA: that the program works at a few texts, by reckoning; the six laws. -/
set_option linter.unusedVariables false
set_option linter.unusedSimpArgs false
set_option maxRecDepth 1000000
namespace Go.Cen
def ofK (s : ByteArray) : Option (List Int) := (sha_Pad s).bind fun y10 => (sha_Of.l0 K64 FU y10 K8).bind fun x11 => (sha_Of.l1 x11 FU 0 (List.replicate 32 (0 : Int))).bind fun x23 => some x23
theorem of_ofK (s : ByteArray) : sha_Of s = ofK s := by unfold sha_Of ofK; rw [constants_eq]; rfl
end Go.Cen

/- EVENT: bytes; the reference. -/
set_option linter.unusedVariables false
set_option linter.unusedSimpArgs false
namespace Go.Cen
def putE (e : ApiEvent) : List Int := numL (clampN e.Kind) ++ (partsE e).flatMap bytD
def putR (e : ApiEvent) : ByteArray × Bool := if validE e then (strOfNums (putE e), true) else (⟨#[]⟩, false)
theorem event_Put_eq {e : ApiEvent} (h : okE e) : event_Put e = some (putR e) := by
  have hp := parts_ok h
  have hl := parts_len e
  have hc := clampN_len e.Kind
  unfold event_Put putR
  rw [event_Valid_eq h]
  cases validE e with
  | false => rfl
  | true =>
    simp only [Option.bind_some, Bool.not_true, Bool.false_eq_true, if_false, wire_Num_eq, parts_eq, if_true]
    rw [put_l0 _ hp (by omega) _ (by omega)]
    rfl
theorem ref03_Valid_eq (s : ByteArray) (h : s.size ≤ 100000) : ref03_Valid s = some (nmOk s) := by
  have := ref03_Valid_str (l := byts s) (byts_isB s) (by rw [byts_len]; exact h)
  rwa [strOfNums_byts] at this
def tells5 (k : Int) : List Bool := if k = 0 ∨ k = 4 ∨ k = 5 then [true, true, false, false, false] else if k = 1 then [true, false, false, true, false] else if k = 2 then [true, false, true, true, true]
  else if k = 3 then [true, false, true, false, false] else if k = 6 then [true, false, false, false, false] else if k = 7 then [false, false, true, false, false] else [false, false, false, false, false]
theorem tells_eq (k : Int) : ref05_tells k = some (tells5 k) := by
  unfold ref05_tells tells5
  rcases kinds k with k | k | k | k | k | k | k | k | ⟨k0, k4, k5, k1, k2, k3, k6, k7⟩
  all_goals first
    | (subst k; rfl)
    | simp [k0, k1, k2, k3, k4, k5, k6, k7]
theorem gtB (a b c d e : Bool) : gt [a, b, c, d, e] 0 = a ∧ gt [a, b, c, d, e] 1 = b ∧ gt [a, b, c, d, e] 2 = c ∧ gt [a, b, c, d, e] 3 = d ∧ gt [a, b, c, d, e] 4 = e := ⟨rfl, rfl, rfl, rfl, rfl⟩
set_option maxHeartbeats 2000000 in
theorem ref05_Valid_eq {e : ApiEvent} (h : okE e) : ref05_Valid e = some (validE e) := by
  unfold ref05_Valid
  rw [tells_eq, ref03_Valid_eq _ h.1]
  rcases kinds e.Kind with k | k | k | k | k | k | k | k | ⟨k0, k4, k5, k1, k2, k3, k6, k7⟩
  case inr.inr.inr.inr.inr.inr.inr.inr =>
    have : (if decide (e.Kind < 0) = true then some true else some (decide (e.Kind > 7))) = some true := by
      by_cases q : e.Kind < 0
      · simp [q]
      · have : e.Kind > 7 := by omega
        simp [this]
    rw [this]
    simp [validE, k0, k1, k2, k3, k4, k5, k6, k7]
  all_goals
    have hz : eqA e.Sum ([0, 0, 0, 0, 0, 0, 0, 0, 0, 0, 0, 0, 0, 0, 0, 0, 0, 0, 0, 0, 0, 0, 0, 0, 0, 0, 0, 0, 0, 0, 0, 0] : List Int) = noD e.Sum := rfl
    simp [k, tells5, validE, (gtB _ _ _ _ _).1, (gtB _ _ _ _ _).2.1, (gtB _ _ _ _ _).2.2.1, (gtB _ _ _ _ _).2.2.2.1, (gtB _ _ _ _ _).2.2.2.2, hz]
    have r1 : ∀ a b x : Int, (if a ≤ x then if x ≤ b then some true else some false else some false) = some (decide (a ≤ x) && decide (x ≤ b)) := fun a b x => by
      by_cases q : a ≤ x <;> by_cases q' : x ≤ b <;> simp [q, q']
    have r2 : ∀ b : Bool, (if b = true then some true else some false) = some b := fun b => by cases b <;> rfl
    have e1 : seq e.Name (⟨#[]⟩ : ByteArray) = noS e.Name := rfl
    simp only [r1, r2, Option.bind_some, e1]
    have e2 : (decide (1 ≤ e.ID) && decide (e.ID ≤ 1099511627776)) = idOk e.ID := rfl
    have e3 : (decide (0 ≤ e.Time) && decide (e.Time ≤ 1099511627776)) = timeOk e.Time := rfl
    have e4 : (decide (0 ≤ e.Len) && decide (e.Len ≤ 600)) = lenOk 0 e.Len := rfl
    have e5 : (decide (1 ≤ e.Len) && decide (e.Len ≤ 600)) = lenOk 1 e.Len := rfl
    (try simp only [e2, e3, e4, e5])
    clear e2 e3 e4 e5 r1 r2 e1
    generalize lenOk 1 e.Len = b1
    generalize lenOk 0 e.Len = b0
    generalize timeOk e.Time = bt
    generalize idOk e.ID = bi
    generalize noS e.Name = bs
    generalize nmOk e.Name = bn
    by_cases hT : e.Time = 0 <;> by_cases hL : e.Len = 0 <;> by_cases hI : e.ID = 0
    all_goals
      cases bs <;> cases bi <;> simp [hT, hL, hI]
    all_goals
      cases bn <;> cases bt <;> cases b0 <;> cases b1 <;> (try simp)
theorem ref04_Text_eq (s : ByteArray) (h : s.size ≤ 100000) : ref04_Text s = some (strOfNums (numL (clampN (s.size : Int)) ++ byts s)) := by
  have hL := LIM_val
  have := clampN_len (s.size : Int)
  unfold ref04_Text
  rw [ref04_Num_eq]
  simp only [Option.bind_some, strOfNums_size]
  rw [if_pos (by omega)]
  congr 1
  rw [← strOfNums_append, strOfNums_byts]
theorem ref04_Sum_eq {d : List Int} (h : d.length = 32) : ref04_Sum d = some (strOfNums d) := by
  unfold ref04_Sum
  rw [ref_bytes h]; rfl
theorem ref05_Put_eq {e : ApiEvent} (h : okE e) : ref05_Put e = some (putR e) := by
  have hL := LIM_val
  have c0 := clampN_len e.Kind
  have c1 := clampN_len e.ID
  have c2 := clampN_len e.Time
  have c3 := clampN_len e.Len
  have c4 := clampN_len (e.Name.size : Int)
  have hn := h.1
  have h32 := h.2.1
  have hb := byts_len e.Name
  unfold ref05_Put putR
  rw [ref05_Valid_eq h]
  cases hv : validE e with
  | false => rfl
  | true =>
    simp only [Option.bind_some, Bool.not_true, Bool.false_eq_true, if_false, if_true, tells_eq, ref04_Num_eq, ref04_Text_eq _ h.1, ref04_Sum_eq h.2.1, putE]
    rcases kinds e.Kind with k | k | k | k | k | k | k | k | ⟨k0, k4, k5, k1, k2, k3, k6, k7⟩
    case inr.inr.inr.inr.inr.inr.inr.inr => simp [validE, k0, k1, k2, k3, k4, k5, k6, k7] at hv
    all_goals
      have hq : ∀ (xs ys : List Int), xs.length ≤ 1000 → ys.length ≤ 100100 → (strOfNums xs).size + (strOfNums ys).size ≤ LIM := fun xs ys h1 h2 => by rw [strOfNums_size, strOfNums_size]; omega
      rw [k] at c0
      simp only [k, tells5, partsE, (gtB _ _ _ _ _).1, (gtB _ _ _ _ _).2.1, (gtB _ _ _ _ _).2.2.1, (gtB _ _ _ _ _).2.2.2.1, (gtB _ _ _ _ _).2.2.2.2, if_true, Option.bind_some, Int.reduceEq, or_true, true_or, or_false, false_or, or_self, if_false, Bool.false_eq_true, reduceCtorEq]
      simp only [strOfNums_append, strOfNums_size, List.length_append, hb, h32]
      repeat (first | rw [if_pos (by omega)] | simp only [Option.bind_some, strOfNums_append, strOfNums_size, List.length_append, hb, h32])
      simp [bytD]
end Go.Cen

/- CHAIN: heads, inputs. -/
set_option linter.unusedVariables false
set_option linter.unusedSimpArgs false
set_option maxRecDepth 100000
namespace Go.Cen
theorem dgx (s : ByteArray) : ∃ d, d = (sha_Of s).getD [] := ⟨_, rfl⟩
/-- a text's digest -/
noncomputable def dg (s : ByteArray) : List Int := Classical.choose (dgx s)
theorem dg_def (s : ByteArray) : dg s = (sha_Of s).getD [] := Classical.choose_spec (dgx s)
theorem dg_eq {s : ByteArray} (h : s.size ≤ 1000000000000) : sha_Of s = some (dg s) ∧ ref02_Of s = some (dg s) ∧ (dg s).length = 32 ∧ isB (dg s) := by
  obtain ⟨d, h1, h2, h3, h4⟩ := of_both h
  have : dg s = d := by rw [dg_def, h1]; rfl
  rw [this]
  exact ⟨h1, h2, h3, h4⟩
theorem putE_len {e : ApiEvent} (h : okE e) : (putE e).length ≤ 500000 := by
  have h1 := clampN_len e.Kind
  have h2 := parts_len e
  have h3 : ∀ (l : List Dyn66), (∀ d ∈ l, okD d) → (l.flatMap bytD).length ≤ 100008 * l.length := by
    intro l
    induction l with
    | nil => intro _; simp
    | cons d r ih =>
      intro hd
      have a := bytD_len (hd d (by simp))
      have b := ih (fun x hx => hd x (by simp [hx]))
      simp only [List.flatMap_cons, List.length_append, List.length_cons]; omega
  have h4 := h3 _ (parts_ok h)
  simp only [putE, List.length_append]; omega
theorem putE_isB {e : ApiEvent} (h : okE e) : isB (putE e) := isB_app (numL_isB _) (isB_flat fun d hd => bytD_isB (parts_ok h d hd))
noncomputable def nx (h : List Int) (e : ApiEvent) : List Int := dg (strOfNums (h ++ putE e))
theorem nx_ok {h : List Int} (hh : h.length = 32) {e : ApiEvent} (he : okE e) : (nx h e).length = 32 ∧ isB (nx h e) := by
  have := putE_len he
  obtain ⟨_, _, a, b⟩ := dg_eq (s := strOfNums (h ++ putE e)) (by rw [strOfNums_size, List.length_append]; omega)
  exact ⟨a, b⟩
theorem Link_eq {h : List Int} (hh : h.length = 32) {e : ApiEvent} (he : okE e) : sha_Link h (strOfNums (putE e)) = some (nx h e) ∧ ref02_Link h (strOfNums (putE e)) = some (nx h e) := by
  have hl := putE_len he
  obtain ⟨d, h1, h2, h3, h4, h5⟩ := link_both hh (a := strOfNums (putE e)) (by rw [strOfNums_size]; omega)
  rw [strOfNums_append] at h3
  have : nx h e = d := by unfold nx; rw [dg_def, h3]; rfl
  rw [this]
  exact ⟨h1, h2⟩
noncomputable def nextP (h : List Int) (e : ApiEvent) : List Int × Bool := if validE e then (nx h e, true) else (z32, false)
theorem Next_eq {h : List Int} (hh : h.length = 32) {e : ApiEvent} (he : okE e) : chain_Next h e = some (nextP h e) ∧ ref06_Next h e = some (nextP h e) := by
  unfold chain_Next ref06_Next nextP
  rw [event_Put_eq he, ref05_Put_eq he]
  unfold putR
  cases validE e with
  | false => exact ⟨rfl, rfl⟩
  | true =>
    simp only [if_true, Option.bind_some, Bool.not_true, Bool.false_eq_true, if_false, (Link_eq hh he).1, (Link_eq hh he).2, and_self]
def okL (l : List ApiEvent) : Prop := ∀ e ∈ l, okE e
def allV (l : List ApiEvent) : Bool := l.all validE
noncomputable def fin (h : List Int) (l : List ApiEvent) : List Int := l.foldl nx h
noncomputable def headP (h : List Int) (l : List ApiEvent) : List Int × Bool := if allV l then (fin h l, true) else (z32, false)
theorem fin_ok : ∀ {l : List ApiEvent} {h : List Int}, h.length = 32 → isB h → okL l → (fin h l).length = 32 ∧ isB (fin h l)
  | [], h, h1, h2, _ => ⟨h1, h2⟩
  | e :: r, h, h1, h2, hl => by
    obtain ⟨a, b⟩ := nx_ok h1 (hl e (by simp))
    exact fin_ok (l := r) a b (fun x hx => hl x (by simp [hx]))
noncomputable def headS (h : List Int) : List ApiEvent → (List Int × Bool) ⊕ List Int
  | [] => .inr h
  | e :: r => if validE e then headS (nx h e) r else .inl (z32, false)
theorem headS_eq : ∀ (l : List ApiEvent) (h : List Int), headS h l = if allV l then .inr (fin h l) else .inl (z32, false)
  | [], h => rfl
  | e :: r, h => by
    have := headS_eq r (nx h e)
    simp only [headS, allV, List.all_cons, fin, List.foldl_cons] at this ⊢
    rw [this]
    by_cases hv : validE e = true
    · simp [hv]
    · have hv' : validE e = false := by simpa using hv
      simp [hv']
theorem Head_eq {h : List Int} (hh : h.length = 32) {l : List ApiEvent} (hl : okL l) (hn : l.length ≤ 1000000) : chain_Head h l = some (headP h l) := by
  have := loopI l (by omega) (fun k i (s : List Int) => chain_Head.l0 l k i s) (fun r s => some (headS s r)) (fun r s => s.length = 32)
    (fun k s hd hI => by simp only [chain_Head.l0, hd, headS]; rfl)
    (fun k i x r s hi hlen hm hd hg hx hw hI ih => by
      have he := hl x hm
      simp only [chain_Head.l0, hd, if_true, hg, and_self, hx, (Next_eq hI he).1, Option.bind_some, nextP]
      cases hv : validE x with
      | false => simp [headS, hv]; rfl
      | true =>
        simp only [if_true, Bool.not_true, Bool.false_eq_true, if_false, hw]
        rw [ih _ (nx_ok hI he).1]
        simp [headS, hv]) h hh
  unfold chain_Head
  rw [show chain_Head.l0 l FU 0 h = _ from this, headS_eq]
  unfold headP
  cases allV l <;> rfl
/-! ### all inputs, and heads -/
noncomputable def pairsP (xs hd : List Int) : List ApiEvent → List (List Int × List Int) × Bool
  | [] => ([(xs, hd)], true)
  | e :: r => if validE e then ((xs, hd) :: (pairsP (hd ++ putE e) (nx hd e) r).1, (pairsP (hd ++ putE e) (nx hd e) r).2) else ([(xs, hd)], false)
theorem y1_eq (H : List (List Int)) (S : List ByteArray) (s : ByteArray) (h : List Int) (h1 : H.length ≤ 100000) (h2 : S.length ≤ 100000) : chain_both.y1 (H, S) s h = some (H ++ [h], S ++ [s]) := by
  have hL := LIM_val
  have a1 : S.length + ([s] : List ByteArray).length ≤ LIM := by simp; omega
  have a2 : H.length + ([h] : List (List Int)).length ≤ LIM := by simp; omega
  simp only [chain_both.y1, a1, a2, if_true]
theorem each_l0 {l : List ApiEvent} (hl : okL l) (hn : l.length ≤ 10000) : ∀ (r : List ApiEvent) (i k : Nat) (hd xs : List Int) (H : List (List Int)) (S : List ByteArray), l.drop i = r → i + r.length = l.length → r.length < k → hd.length = 32 →
    H.length + r.length ≤ 50000 → S.length + r.length ≤ 50000 → ∃ t, chain_each_1.l0 chain_both.y1 l k (i : Int) hd (H, S) (strOfNums xs) true = some (.inl ((H ++ (pairsP xs hd r).1.map Prod.snd, S ++ (pairsP xs hd r).1.map (fun p => strOfNums p.1)), t, (pairsP xs hd r).2))
  | [], i, k, hd, xs, H, S, e1, e2, hk, h32, hH, hS => by
    obtain ⟨k, rfl⟩ : ∃ m, k = m + 1 := ⟨k - 1, by omega⟩
    simp only [List.length_nil, Nat.add_zero] at e2 hH hS
    have hi : ((i : Int) == (l.length : Int)) = true := by rw [e2]; simp
    refine ⟨strOfNums xs, ?_⟩
    simp only [chain_each_1.l0, y1_eq H S _ _ (by omega) (by omega), Option.bind_some, hi, if_true, pairsP, List.map_cons, List.map_nil]
  | e :: r, i, k, hd, xs, H, S, e1, e2, hk, h32, hH, hS => by
    obtain ⟨k, rfl⟩ : ∃ m, k = m + 1 := ⟨k - 1, by omega⟩
    simp only [List.length_cons] at e2 hH hS hk
    have hlt : i < l.length := by omega
    have hi : ((i : Int) == (l.length : Int)) = false := by simp; omega
    have hg : 0 ≤ (i : Int) ∧ (i : Int) < (l.length : Int) := ⟨by omega, by omega⟩
    have hcons : l.drop i = l[i] :: l.drop (i + 1) := List.drop_eq_getElem_cons hlt
    rw [hcons] at e1
    simp only [List.cons.injEq] at e1
    have hx : gt l (i : Int) = e := by rw [gt_nat l i hlt]; exact e1.1
    have he : okE e := hl e (by rw [← e1.1]; exact List.getElem_mem _)
    have hpl := putE_len he
    have hL := LIM_val
    have hw : wi64 ((i : Int) + 1) = ((i + 1 : Nat) : Int) := by rw [wi64_id (by omega)]; omega
    have hq : (strOfNums hd).size + (strOfNums (putE e)).size ≤ LIM := by rw [strOfNums_size, strOfNums_size]; omega
    simp only [chain_each_1.l0, y1_eq H S _ _ (by omega) (by omega), Option.bind_some, hi, Bool.false_eq_true, if_false, hg, and_self, if_true, hx, event_Put_eq he, putR]
    cases hv : validE e with
    | false =>
      refine ⟨strOfNums xs, ?_⟩
      simp only [Bool.false_eq_true, if_false, Bool.not_false, if_true, pairsP, hv, List.map_cons, List.map_nil]
    | true =>
      have hsz : (strOfNums (hd ++ putE e)).size ≤ 1000000000000 := by rw [strOfNums_size, List.length_append]; omega
      have hdg := (dg_eq hsz).1
      obtain ⟨t, ht⟩ := each_l0 hl hn r (i + 1) k (nx hd e) (hd ++ putE e) (H ++ [hd]) (S ++ [strOfNums xs]) e1.2 (by omega) (by omega) (nx_ok h32 he).1 (by simp; omega) (by simp; omega)
      refine ⟨t, ?_⟩
      simp only [if_true, Bool.not_true, Bool.false_eq_true, if_false, hq, strOfNums_append, hdg, Option.bind_some, hw]
      refine Eq.trans ht ?_
      simp only [pairsP, hv, if_true, List.map_cons, List.append_assoc, List.singleton_append]
def c0 : List Int := [99, 101, 110, 111, 116, 97, 112, 104]
noncomputable def hd0 : List Int := dg (strOfNums c0)
theorem c0_eq : (⟨#[99, 101, 110, 111, 116, 97, 112, 104]⟩ : ByteArray) = strOfNums c0 := rfl
theorem hd0_eq : sha_Of (strOfNums c0) = some hd0 ∧ ref02_Of (strOfNums c0) = some hd0 ∧ hd0.length = 32 ∧ isB hd0 := dg_eq (by rw [strOfNums_size]; decide)
noncomputable def inp (xs hd : List Int) : List ApiEvent → List (List Int)
  | [] => [xs]
  | e :: r => xs :: inp (hd ++ putE e) (nx hd e) r
noncomputable def hds (hd : List Int) : List ApiEvent → List (List Int)
  | [] => [hd]
  | e :: r => hd :: hds (nx hd e) r
theorem pairs_eq : ∀ (l : List ApiEvent) (xs hd : List Int), (pairsP xs hd l).2 = allV l ∧ (allV l = true → (pairsP xs hd l).1.map Prod.snd = hds hd l ∧ (pairsP xs hd l).1.map (fun p => strOfNums p.1) = (inp xs hd l).map strOfNums)
  | [], xs, hd => ⟨rfl, fun _ => ⟨rfl, rfl⟩⟩
  | e :: r, xs, hd => by
    obtain ⟨h1, h2⟩ := pairs_eq r (hd ++ putE e) (nx hd e)
    simp only [pairsP, allV, List.all_cons, inp, hds]
    cases hv : validE e with
    | false => simp
    | true =>
      simp only [if_true, Bool.true_and, List.map_cons]
      refine ⟨h1, fun h => ?_⟩
      obtain ⟨a, b⟩ := h2 h
      exact ⟨by rw [a], by rw [b]⟩
theorem both_eq {l : List ApiEvent} (hl : okL l) (hn : l.length ≤ 10000) : chain_both l = some (if allV l then ((inp c0 hd0 l).map strOfNums, hds hd0 l) else ([], [])) := by
  unfold chain_both chain_each chain_each_1
  have hF : FU = 4611686018427387904 := rfl
  obtain ⟨t, ht⟩ := each_l0 hl hn l 0 FU hd0 c0 [] [] rfl (by omega) (by omega) hd0_eq.2.2.1 (by simp; omega) (by simp; omega)
  have ht' : chain_each_1.l0 chain_both.y1 l FU 0 hd0 ([], []) (strOfNums c0) true = _ := ht
  simp only [Option.bind_some, c0_eq, hd0_eq.1, ht', List.nil_append]
  obtain ⟨h1, h2⟩ := pairs_eq l c0 hd0
  rw [h1]
  cases hv : allV l with
  | false => simp
  | true =>
    obtain ⟨a, b⟩ := h2 hv
    simp only [Bool.not_true, Bool.false_eq_true, if_false, if_true, a, b]
theorem Heads_eq {l : List ApiEvent} (hl : okL l) (hn : l.length ≤ 10000) : chain_Heads l = some (if allV l then hds hd0 l else []) := by
  unfold chain_Heads
  rw [both_eq hl hn]
  cases allV l <;> rfl
theorem Start_eq : chain_Start = some hd0 := by
  unfold chain_Start
  rw [c0_eq, hd0_eq.1]; rfl
/-! ### what heads are -/
theorem hds_len : ∀ (l : List ApiEvent) (h : List Int), (hds h l).length = l.length + 1
  | [], h => rfl
  | e :: r, h => by simp [hds, hds_len r]
theorem inp_len : ∀ (l : List ApiEvent) (xs h : List Int), (inp xs h l).length = l.length + 1
  | [], xs, h => rfl
  | e :: r, xs, h => by simp [inp, inp_len r]
theorem hds_get : ∀ (l : List ApiEvent) (h : List Int) (n : Nat), n ≤ l.length → (hds h l)[n]? = some (fin h (l.take n))
  | [], h, n, hn => by have : n = 0 := by simpa using hn
                       subst this; rfl
  | e :: r, h, 0, _ => rfl
  | e :: r, h, n + 1, hn => by
    have := hds_get r (nx h e) n (by simpa using hn)
    simpa [hds, fin] using this
theorem inp_get : ∀ (l : List ApiEvent) (xs h : List Int) (n : Nat) (hn : n < l.length), (inp xs h l)[n + 1]? = some (fin h (l.take n) ++ putE l[n])
  | e :: r, xs, h, 0, _ => by cases r <;> rfl
  | e :: r, xs, h, n + 1, hn => by
    have := inp_get r (h ++ putE e) (nx h e) n (by simpa using hn)
    simpa [inp, fin] using this
theorem inp_zero (l : List ApiEvent) (xs h : List Int) : (inp xs h l)[0]? = some xs := by cases l <;> rfl
theorem gt_some {α : Type} [Inhabited α] {xs : List α} {n : Nat} {v : α} (h : xs[n]? = some v) : gt xs (n : Int) = v := by simp [gt, List.getD_eq_getElem?_getD, h]
theorem fin_app (h : List Int) (a b : List ApiEvent) : fin h (a ++ b) = fin (fin h a) b := List.foldl_append
end Go.Cen

/- EVENT: bytes tell the event. -/
set_option linter.unusedVariables false
set_option linter.unusedSimpArgs false
namespace Go.Cen
theorem eq_event_iff (a b : ApiEvent) : eq_ApiEvent a b = true ↔ a = b := by
  cases a; cases b
  simp [eq_ApiEvent, seq_iff, eqA_iff]
theorem event_eta (a : ApiEvent) : eq_ApiEvent a a = true := (eq_event_iff a a).2 rfl
/-- what an event that may be is -/
theorem valid_form {e : ApiEvent} (h : okE e) (hv : validE e = true) : partsE e ≠ [] ∧ ofE e = e ∧ namedL (partsE e) true = true ∧ (e.Kind = 7 ∨ idOk e.ID = true) ∧ timeOk e.Time = true ∧ lenOk (leastE e) e.Len = true := by
  have h1 := event_Valid_raw h
  rw [event_Valid_eq h, hv] at h1
  have h2 := (someS h1).symm
  by_cases hk : partsE e = []
  · rw [if_pos hk] at h2; cases h2
  · rw [if_neg hk] at h2
    simp only [Bool.and_eq_true, Bool.or_eq_true, beq_iff_eq] at h2
    obtain ⟨a, b, c, d, f⟩ := h2
    exact ⟨hk, (eq_event_iff _ _).1 a, b, c, d, f⟩
theorem valid_kind {e : ApiEvent} (hv : validE e = true) : 0 ≤ e.Kind ∧ e.Kind ≤ 7 := by
  rcases kinds e.Kind with k | k | k | k | k | k | k | k | ⟨k0, k4, k5, k1, k2, k3, k6, k7⟩
  case inr.inr.inr.inr.inr.inr.inr.inr => simp [validE, k0, k1, k2, k3, k4, k5, k6, k7] at hv
  all_goals omega
theorem valid_nums {e : ApiEvent} (h : okE e) (hv : validE e = true) : (0 ≤ e.ID ∧ e.ID ≤ 1099511627776) ∧ (0 ≤ e.Time ∧ e.Time ≤ 1099511627776) ∧ (0 ≤ e.Len ∧ e.Len ≤ 600) := by
  obtain ⟨h1, h2, h3, h4, h5, h6⟩ := valid_form h hv
  simp only [timeOk, lenOk, Bool.and_eq_true, decide_eq_true_eq] at h5 h6
  have hl : leastE e = 0 ∨ leastE e = 1 := by unfold leastE; split <;> simp
  refine ⟨?_, h5, by omega⟩
  rcases h4 with h4 | h4
  · have : (ofE e).ID = 0 := by simp [ofE, h4]
    rw [h2] at this; omega
  · simp only [idOk, Bool.and_eq_true, decide_eq_true_eq] at h4; omega
theorem putE_pos (e : ApiEvent) : 1 ≤ (putE e).length := by
  have := numL_pos (clampN e.Kind)
  simp only [putE, List.length_append]; omega
end Go.Cen

/- slices.Reverse at texts, plainly. -/
set_option linter.unusedVariables false
set_option linter.unusedSimpArgs false
namespace Go.Cen
def revI (l : List ByteArray) (i : Nat) : List ByteArray := (List.range l.length).map fun t => if t < i ∨ l.length ≤ t + i then gt l ((l.length - 1 - t : Nat) : Int) else gt l (t : Int)
theorem revI_len (l : List ByteArray) (i : Nat) : (revI l i).length = l.length := by simp [revI]
theorem revI_get (l : List ByteArray) (i t : Nat) (h : t < l.length) : (revI l i)[t]? = some (if t < i ∨ l.length ≤ t + i then gt l ((l.length - 1 - t : Nat) : Int) else gt l (t : Int)) := by
  simp [revI, h]
theorem revI_gt (l : List ByteArray) (i t : Nat) (h : t < l.length) : gt (revI l i) (t : Int) = if t < i ∨ l.length ≤ t + i then gt l ((l.length - 1 - t : Nat) : Int) else gt l (t : Int) := by
  rw [gt_nat _ t (by rw [revI_len]; exact h)]
  have := revI_get l i t h
  rw [List.getElem?_eq_getElem (by rw [revI_len]; exact h)] at this
  exact Option.some.inj this
theorem revI_zero (l : List ByteArray) : revI l 0 = l := by
  apply List.ext_getElem?
  intro t
  by_cases h : t < l.length
  · rw [revI_get l 0 t h]
    have : ¬ (t < 0 ∨ l.length ≤ t + 0) := by omega
    rw [if_neg this, gt_nat l t h, List.getElem?_eq_getElem h]
  · rw [List.getElem?_eq_none (by rw [revI_len]; omega), List.getElem?_eq_none (by omega)]
theorem revI_end (l : List ByteArray) (i : Nat) (h : l.length ≤ 2 * i + 1) : revI l i = l.reverse := by
  apply List.ext_getElem?
  intro t
  by_cases ht : t < l.length
  · rw [revI_get l i t ht, List.getElem?_reverse ht]
    by_cases c : t < i ∨ l.length ≤ t + i
    · rw [if_pos c, gt_nat l (l.length - 1 - t) (by omega), List.getElem?_eq_getElem (by omega)]
    · rw [if_neg c, gt_nat l t ht, List.getElem?_eq_getElem (by omega)]
      congr 2
      omega
  · rw [List.getElem?_eq_none (by rw [revI_len]; omega), List.getElem?_eq_none (by simp; omega)]
theorem revI_step (l : List ByteArray) (i j : Nat) (hj : j + i + 1 = l.length) (h : i < j) : st (st (revI l i) (i : Int) (gt (revI l i) (j : Int))) (j : Int) (gt (revI l i) (i : Int)) = revI l (i + 1) := by
  have gi : gt (revI l i) (i : Int) = gt l (i : Int) := by rw [revI_gt l i i (by omega), if_neg (by omega)]
  have gj : gt (revI l i) (j : Int) = gt l (j : Int) := by rw [revI_gt l i j (by omega), if_neg (by omega)]
  rw [gi, gj]
  apply List.ext_getElem?
  intro t
  by_cases ht : t < l.length
  · rw [revI_get l (i + 1) t ht]
    simp only [st, Int.toNat_natCast, List.getElem?_set, List.length_set, revI_len]
    by_cases c1 : j = t
    · subst c1
      rw [if_pos rfl, if_pos (by omega), if_pos (by omega)]
      congr 2; omega
    · rw [if_neg c1]
      by_cases c2 : i = t
      · subst c2
        rw [if_pos rfl, if_pos (by omega), if_pos (by omega)]
        congr 2; omega
      · rw [if_neg c2, revI_get l i t ht]
        by_cases c3 : t < i ∨ l.length ≤ t + i
        · rw [if_pos c3, if_pos (by omega)]
        · rw [if_neg c3, if_neg (by omega)]
  · rw [List.getElem?_eq_none (by rw [st_length, st_length, revI_len]; omega), List.getElem?_eq_none (by rw [revI_len]; omega)]
theorem rev_l0 (l : List ByteArray) (hn : l.length ≤ 1000000) : ∀ (d i k : Nat), l.length ≤ 2 * i + 1 + d → i ≤ l.length → d < k → slices_Reverse_string.l0 k (revI l i) (i : Int) ((l.length : Int) - 1 - i) = some l.reverse := by
  intro d
  induction d with
  | zero =>
    intro i k h1 h2 h3
    obtain ⟨k, rfl⟩ : ∃ m, k = m + 1 := ⟨k - 1, by omega⟩
    have : decide ((i : Int) < (l.length : Int) - 1 - i) = false := by simp; omega
    simp only [slices_Reverse_string.l0, this, Bool.false_eq_true, if_false]
    rw [revI_end l i (by omega)]
  | succ d ih =>
    intro i k h1 h2 h3
    obtain ⟨k, rfl⟩ : ∃ m, k = m + 1 := ⟨k - 1, by omega⟩
    by_cases hlt : 2 * i + 1 < l.length
    · have hd : decide ((i : Int) < (l.length : Int) - 1 - i) = true := by simp; omega
      obtain ⟨j, hj⟩ : ∃ j, j + i + 1 = l.length := ⟨l.length - 1 - i, by omega⟩
      have ej : (l.length : Int) - 1 - i = (j : Int) := by omega
      have g1 : 0 ≤ (j : Int) ∧ (j : Int) < (((revI l i)).length : Int) := by rw [revI_len]; omega
      have g2 : 0 ≤ (i : Int) ∧ (i : Int) < (((revI l i)).length : Int) := by rw [revI_len]; omega
      have g3 : 0 ≤ (j : Int) ∧ (j : Int) < ((st (revI l i) (i : Int) (gt (revI l i) (j : Int))).length : Int) := by rw [st_length, revI_len]; omega
      have w1 : wi64 ((i : Int) + 1) = ((i + 1 : Nat) : Int) := by rw [wi64_id (by omega)]; omega
      have w2 : wi64 ((j : Int) - 1) = (l.length : Int) - 1 - ((i + 1 : Nat) : Int) := by rw [wi64_id (by omega)]; omega
      rw [ej] at hd ⊢
      simp only [slices_Reverse_string.l0, hd, if_true, g1, g2, g3, and_self, w1, w2]
      rw [revI_step l i j hj (by omega)]
      exact ih (i + 1) k (by omega) (by omega) (by omega)
    · have : decide ((i : Int) < (l.length : Int) - 1 - i) = false := by simp; omega
      simp only [slices_Reverse_string.l0, this, Bool.false_eq_true, if_false]
      rw [revI_end l i (by omega)]
theorem rev_eq (l : List ByteArray) (hn : l.length ≤ 1000000) : slices_Reverse_string l = some l.reverse := by
  have hF : FU = 4611686018427387904 := rfl
  have := rev_l0 l hn l.length 0 FU (by omega) (by omega) (by omega)
  rw [revI_zero] at this
  have e : (l.length : Int) - 1 - (0 : Nat) = wi64 ((l.length : Int) - 1) := by rw [wi64_id (by omega)]; omega
  rw [e] at this
  unfold slices_Reverse_string
  rw [show slices_Reverse_string.l0 FU l 0 (wi64 ((l.length : Int) - 1)) = _ from this]
  simp
end Go.Cen

/- CHAIN: Collide, Few, the examples. -/
set_option linter.unusedVariables false
set_option linter.unusedSimpArgs false
set_option maxRecDepth 100000
namespace Go.Cen
/-! ### how many are looked at -/
def fewE (l : List ApiEvent) : Bool := (l.take 21).all (fun e => decide (e.Name.size ≤ 100)) && decide (l.length ≤ 20)
theorem few_l0 (l : List ApiEvent) : ∀ (d i k : Nat), d + i = 21 → i ≤ l.length → d < k → law06_Few.l0 l k (i : Int) = some (if ((l.drop i).take d).all (fun e => decide (e.Name.size ≤ 100)) = true then .inr () else .inl false) := by
  intro d
  induction d with
  | zero =>
    intro i k h1 h2 h3
    obtain ⟨k, rfl⟩ : ∃ m, k = m + 1 := ⟨k - 1, by omega⟩
    have hi : i = 21 := by omega
    subst hi
    by_cases h : (21 : Nat) < l.length
    · have hd : decide ((((21 : Nat)) : Int) < (l.length : Int)) = true := by simp; omega
      have : decide ((((21 : Nat)) : Int) ≤ 20) = false := by decide
      simp [law06_Few.l0, hd, this]
    · have hd : decide ((((21 : Nat)) : Int) < (l.length : Int)) = false := by simp; omega
      simp [law06_Few.l0, hd]
  | succ d ih =>
    intro i k h1 h2 h3
    obtain ⟨k, rfl⟩ : ∃ m, k = m + 1 := ⟨k - 1, by omega⟩
    by_cases h : i < l.length
    · have hd : decide ((i : Int) < (l.length : Int)) = true := by simp; omega
      have h20 : decide ((i : Int) ≤ 20) = true := by simp; omega
      have hg : 0 ≤ (i : Int) ∧ (i : Int) < (l.length : Int) := ⟨by omega, by omega⟩
      have hw : wi64 ((i : Int) + 1) = ((i + 1 : Nat) : Int) := by rw [wi64_id (by omega)]; omega
      have hcons : l.drop i = l[i] :: l.drop (i + 1) := List.drop_eq_getElem_cons h
      simp only [law06_Few.l0, hd, h20, if_true, Option.bind_some, hg, and_self, gt_nat l i h, hw]
      rw [ih (i + 1) k (by omega) (by omega) (by omega), hcons]
      simp only [List.take_succ_cons, List.all_cons]
      by_cases q : (l[i].Name.size : Int) > 100
      · have q' : ¬ l[i].Name.size ≤ 100 := by omega
        simp [q, q']
      · have q' : l[i].Name.size ≤ 100 := by omega
        simp [q, q']
    · have hd : decide ((i : Int) < (l.length : Int)) = false := by simp; omega
      have hz : l.drop i = [] := List.drop_eq_nil_iff.2 (by omega)
      simp only [law06_Few.l0, hd, hz]
      simp
theorem Few_eq (l : List ApiEvent) : law06_Few l = some (fewE l) := by
  have hF : FU = 4611686018427387904 := rfl
  have := few_l0 l 21 0 FU (by omega) (by omega) (by omega)
  unfold law06_Few fewE
  rw [show law06_Few.l0 l FU 0 = _ from this]
  simp only [List.drop_zero, Option.bind_some]
  cases (l.take 21).all (fun e => decide (e.Name.size ≤ 100)) with
  | false => rfl
  | true =>
    simp only [if_true, Bool.true_and, Option.some.injEq]
    by_cases h : l.length ≤ 20
    · have : (l.length : Int) ≤ 20 := by omega
      simp [h, this]
    · have : ¬ (l.length : Int) ≤ 20 := by omega
      simp [h, this]
def sumsOk (l : List ApiEvent) : Prop := ∀ e ∈ l, e.Sum.length = 32 ∧ isB e.Sum
theorem few_ok {l : List ApiEvent} (hs : sumsOk l) (h : fewE l = true) : okL l ∧ l.length ≤ 20 := by
  simp only [fewE, Bool.and_eq_true, decide_eq_true_eq] at h
  refine ⟨fun e he => ?_, h.2⟩
  have ht : l.take 21 = l := List.take_of_length_le (by omega)
  rw [ht] at h
  have := List.all_eq_true.1 h.1 e he
  simp only [decide_eq_true_eq] at this
  exact ⟨by omega, hs e he⟩
/-! ### from behind on -/
def colS : List (List Int) → List (List Int) → ByteArray × ByteArray × Bool
  | x :: r, y :: s => if x = y then colS r s else (strOfNums x, strOfNums y, true)
  | _, _ => (⟨#[]⟩, ⟨#[]⟩, false)
theorem col_l0 : ∀ (r s x y : List (List Int)) (i k : Nat), (∀ v ∈ x, isB v) → (∀ v ∈ y, isB v) → x.length ≤ 100000 → y.length ≤ 100000 → x.drop i = r → y.drop i = s → i ≤ x.length → i ≤ y.length → r.length < k →
    chain_Collide.l0 k (x.map strOfNums) (y.map strOfNums) (i : Int) = some (.inl (colS r s))
  | [], s, x, y, i, k, hx, hy, nx_, ny, e1, e2, h1, h2, hk => by
    obtain ⟨k, rfl⟩ : ∃ m, k = m + 1 := ⟨k - 1, by omega⟩
    have hl : i = x.length := by have := List.drop_eq_nil_iff.1 e1; omega
    have : ((i : Int) == ((x.map strOfNums).length : Int)) = true := by rw [List.length_map, hl]; simp
    simp [chain_Collide.l0, hl, colS]
  | u :: r, [], x, y, i, k, hx, hy, nx_, ny, e1, e2, h1, h2, hk => by
    obtain ⟨k, rfl⟩ : ∃ m, k = m + 1 := ⟨k - 1, by omega⟩
    have hl : i = y.length := by have := List.drop_eq_nil_iff.1 e2; omega
    have hd : (if ((i : Int) == ((x.map strOfNums).length : Int)) = true then some true else some ((i : Int) == ((y.map strOfNums).length : Int))) = some true := by
      rw [List.length_map, List.length_map, hl]; simp
    simp only [chain_Collide.l0, hd, Option.bind_some, if_true, colS]
  | u :: r, v :: s, x, y, i, k, hx, hy, nx_, ny, e1, e2, h1, h2, hk => by
    obtain ⟨k, rfl⟩ : ∃ m, k = m + 1 := ⟨k - 1, by omega⟩
    have lx : i < x.length := by have := congrArg List.length e1; simp at this; omega
    have ly : i < y.length := by have := congrArg List.length e2; simp at this; omega
    rw [List.drop_eq_getElem_cons lx] at e1
    rw [List.drop_eq_getElem_cons ly] at e2
    simp only [List.cons.injEq] at e1 e2
    have gx : gt (x.map strOfNums) (i : Int) = strOfNums u := by rw [gt_nat _ i (by simpa using lx)]; simp [e1.1]
    have gy : gt (y.map strOfNums) (i : Int) = strOfNums v := by rw [gt_nat _ i (by simpa using ly)]; simp [e2.1]
    have hd : (if ((i : Int) == ((x.map strOfNums).length : Int)) = true then some true else some ((i : Int) == ((y.map strOfNums).length : Int))) = some false := by
      have a : ((i : Int) == ((x.map strOfNums).length : Int)) = false := by rw [List.length_map]; simp; omega
      have b : ((i : Int) == ((y.map strOfNums).length : Int)) = false := by rw [List.length_map]; simp; omega
      simp only [a, b, Bool.false_eq_true, if_false]
    have g1 : 0 ≤ (i : Int) ∧ (i : Int) < ((x.map strOfNums).length : Int) := by rw [List.length_map]; omega
    have g2 : 0 ≤ (i : Int) ∧ (i : Int) < ((y.map strOfNums).length : Int) := by rw [List.length_map]; omega
    have hw : wi64 ((i : Int) + 1) = ((i + 1 : Nat) : Int) := by rw [wi64_id (by omega)]; omega
    have hu : isB u := by rw [← e1.1]; exact hx _ (List.getElem_mem _)
    have hv : isB v := by rw [← e2.1]; exact hy _ (List.getElem_mem _)
    simp only [chain_Collide.l0, hd, Option.bind_some, Bool.false_eq_true, if_false, g1, g2, and_self, if_true, gx, gy, seq_str hu hv, hw, decide_eq_true_eq, colS]
    by_cases q : u = v
    · rw [if_pos q, if_pos q]
      exact col_l0 r s x y (i + 1) k hx hy nx_ ny e1.2 e2.2 (by omega) (by omega) (by simp at hk; omega)
    · rw [if_neg q, if_neg q]
theorem c0_isB : isB c0 := by
  have h : ∀ x ∈ c0, 0 ≤ x ∧ x < 256 := by decide
  exact h
theorem inp_isB : ∀ {l : List ApiEvent} {xs h : List Int}, okL l → isB xs → isB h → h.length = 32 → ∀ v ∈ inp xs h l, isB v
  | [], xs, h, _, hx, _, _, v, hv => by simp [inp] at hv; rw [hv]; exact hx
  | e :: r, xs, h, hl, hx, hh, h32, v, hv => by
    have he := hl e (by simp)
    obtain ⟨a, b⟩ := nx_ok h32 he
    simp only [inp, List.mem_cons] at hv
    rcases hv with rfl | hv
    · exact hx
    · exact inp_isB (l := r) (fun x hx => hl x (by simp [hx])) (isB_app hh (putE_isB he)) b a v hv
theorem hds_last (l : List ApiEvent) (h : List Int) : gt (hds h l) (l.length : Int) = fin h l := by
  have := hds_get l h l.length (Nat.le_refl _)
  rw [List.take_length] at this
  exact gt_some this
noncomputable def colP (a b : List ApiEvent) : ByteArray × ByteArray × Bool := if (allV a && (allV b && eqA (fin hd0 a) (fin hd0 b))) = true then colS (inp c0 hd0 a).reverse (inp c0 hd0 b).reverse else (⟨#[]⟩, ⟨#[]⟩, false)
theorem Collide_eq {a b : List ApiEvent} (ha : okL a) (hb : okL b) (na : a.length ≤ 10000) (nb : b.length ≤ 10000) : chain_Collide a b = some (colP a b) := by
  have hF : FU = 4611686018427387904 := rfl
  unfold chain_Collide colP
  rw [both_eq ha na, both_eq hb nb]
  cases va : allV a with
  | false => simp
  | true =>
    cases vb : allV b with
    | false => simp
    | true =>
      have z1 : (((hds hd0 a).length : Int) == 0) = false := by rw [hds_len]; simp; omega
      have z2 : (((hds hd0 b).length : Int) == 0) = false := by rw [hds_len]; simp; omega
      have g1 : 0 ≤ (a.length : Int) ∧ (a.length : Int) < ((hds hd0 a).length : Int) := by rw [hds_len]; omega
      have g2 : 0 ≤ (b.length : Int) ∧ (b.length : Int) < ((hds hd0 b).length : Int) := by rw [hds_len]; omega
      simp only [if_true, Option.bind_some, z1, z2, Bool.false_eq_true, if_false, g1, g2, and_self, hds_last, Bool.true_and]
      cases eqA (fin hd0 a) (fin hd0 b) with
      | false => simp
      | true =>
        simp only [Bool.not_true, Bool.false_eq_true, if_false]
        rw [rev_eq _ (by rw [List.length_map, inp_len]; omega), rev_eq _ (by rw [List.length_map, inp_len]; omega)]
        simp only [Option.bind_some, ← List.map_reverse]
        have ia := inp_isB ha c0_isB hd0_eq.2.2.2 hd0_eq.2.2.1
        have ib := inp_isB hb c0_isB hd0_eq.2.2.2 hd0_eq.2.2.1
        have := col_l0 (inp c0 hd0 a).reverse (inp c0 hd0 b).reverse (inp c0 hd0 a).reverse (inp c0 hd0 b).reverse 0 FU (fun v hv => ia v (by simpa using hv)) (fun v hv => ib v (by simpa using hv)) (by rw [List.length_reverse, inp_len]; omega) (by rw [List.length_reverse, inp_len]; omega) rfl rfl (by omega) (by omega) (by rw [List.length_reverse, inp_len]; omega)
        rw [show chain_Collide.l0 FU _ _ 0 = _ from this]
        simp
theorem Input_eq {l : List ApiEvent} (hl : okL l) (hn : l.length ≤ 10000) (i : Int) : chain_Input l i = some (if allV l = true ∧ 0 ≤ i ∧ i < (l.length : Int) + 1 then strOfNums (gt (inp c0 hd0 l) i) else ⟨#[]⟩) := by
  unfold chain_Input
  rw [both_eq hl hn]
  cases va : allV l with
  | false =>
    simp only [Bool.false_eq_true, if_false, Option.bind_some, List.length_nil, false_and]
    by_cases h : i < 0
    · simp [h]
    · have : i ≥ 0 := by omega
      simp [h, this]
  | true =>
    have hlen : (((inp c0 hd0 l).map strOfNums).length : Int) = (l.length : Int) + 1 := by rw [List.length_map, inp_len]; omega
    simp only [if_true, Option.bind_some, hlen, true_and]
    by_cases h : i < 0
    · have : ¬ (0 ≤ i ∧ i < (l.length : Int) + 1) := by omega
      simp [h, this]
    · by_cases h2 : i ≥ (l.length : Int) + 1
      · have : ¬ (0 ≤ i ∧ i < (l.length : Int) + 1) := by omega
        simp [h, h2, this]
      · have hg : 0 ≤ i ∧ i < (l.length : Int) + 1 := by omega
        have h2' : decide (i ≥ (l.length : Int) + 1) = false := by simpa using h2
        have h' : decide (i < 0) = false := by simpa using h
        obtain ⟨n, rfl⟩ := Int.eq_ofNat_of_zero_le hg.1
        simp only [h', h2', Bool.false_eq_true, if_false, Option.bind_some, hg, and_self, if_true]
        have hlt : n < (inp c0 hd0 l).length := by rw [inp_len]; omega
        rw [gt_nat _ n (by simpa using hlt), gt_nat _ n hlt]
        simp
/-! ### the examples -/
def ev1 : ApiEvent := ⟨7, 0, ⟨#[]⟩, 1, 0, List.replicate 32 0⟩
theorem ev1_ok : okE ev1 := ⟨by decide, rfl, by intro x hx; have := List.eq_of_mem_replicate hx; omega⟩
theorem ev1_v : validE ev1 = true := by decide +kernel
theorem ev1_put : putE ev1 = [7, 1] := by decide +kernel
theorem ev1_all : allV [ev1] = true := by simp [allV, ev1_v]
theorem ev1_okL : okL [ev1] := fun e he => by rw [List.mem_singleton.1 he]; exact ev1_ok
theorem nil_okL : okL [] := fun e he => by cases he
theorem ne_start : eqA (nx hd0 ev1) hd0 = false := by
  have h : ((ofK (strOfNums c0)).bind fun x => (ofK (strOfNums (x ++ [7, 1]))).bind fun y => some (eqA y x)) = some false := by decide +kernel
  obtain ⟨x, h1, h⟩ := bindS h
  obtain ⟨y, h2, h⟩ := bindS h
  rw [← of_ofK] at h1 h2
  have e1 : hd0 = x := by rw [hd0_eq.1] at h1; exact someS h1
  have e2 : nx hd0 ev1 = y := by
    unfold nx
    rw [ev1_put, e1, dg_def, h2]; rfl
  rw [e2, e1]
  exact someS h
theorem works06 : law06_works = some true := by
  have hne := ne_start
  have h32 := hd0_eq.2.2.1
  have hz : ((⟨7, 0, ⟨#[]⟩, 1, 0, List.replicate 32 0⟩ : ApiEvent)) = ev1 := rfl
  have hd1 : hds hd0 [ev1] = [hd0, nx hd0 ev1] := rfl
  have hi0 : gt (inp c0 hd0 [ev1]) 0 = c0 := rfl
  have hi1 : gt (inp c0 hd0 [ev1]) 1 = hd0 ++ putE ev1 := rfl
  have hcol : colP [] [ev1] = (⟨#[]⟩, ⟨#[]⟩, false) := by
    unfold colP
    have : fin hd0 [ev1] = nx hd0 ev1 := rfl
    rw [this, eqA_symm, show fin hd0 [] = hd0 from rfl, hne]
    simp
  have hs : (strOfNums (hd0 ++ putE ev1)).size = 34 := by rw [strOfNums_size, List.length_append, h32, ev1_put]; rfl
  have hfin : fin hd0 [ev1] = nx hd0 ev1 := rfl
  unfold law06_works
  simp only [hz, Start_eq, Option.bind_some, (Next_eq h32 ev1_ok).1, nextP, ev1_v, if_true, Head_eq h32 ev1_okL (by decide), headP, ev1_all, Heads_eq ev1_okL (by decide), Collide_eq nil_okL ev1_okL (by decide) (by decide), hcol, c0_eq, hd0_eq.1, eqA_refl, hfin, Input_eq ev1_okL (by decide), hd1, hi0, hi1]
  simp [gt1, gt, eqA_refl, seq_refl, hs, hne, h32, ev1_put, strOfNums_size]
end Go.Cen

/- CHAIN: the laws on heads. -/
set_option linter.unusedVariables false
set_option linter.unusedSimpArgs false
set_option maxRecDepth 100000
namespace Go.Cen
theorem okL_take {a : List ApiEvent} (ha : okL a) (n : Nat) : okL (a.take n) := fun e he => ha e (List.mem_of_mem_take he)
/-! ### two rows of one head -/
end Go.Cen

/- ROOT: what is valid, and its bytes. -/
set_option linter.unusedVariables false
set_option linter.unusedSimpArgs false
namespace Go.Cen
/-- one row, as four numbers -/
structure Q where
  l : Int
  o : Int
  b : Int
  t : Int
  deriving DecidableEq
end Go.Cen

/- ROOT: its bytes, and the parts. -/
set_option linter.unusedVariables false
set_option linter.unusedSimpArgs false
namespace Go.Cen
/-- a number's bytes, clamped -/
def nm (a : Int) : List Int := numL (clampN a)
end Go.Cen

/- ROOT: numbers read out of bytes. -/
set_option linter.unusedVariables false
set_option linter.unusedSimpArgs false
namespace Go.Cen
theorem bOr_i64 (x y : Nat) (hx : x < 2 ^ 62) (hy : y < 2 ^ 62) : bOr .i64 (x : Int) (y : Int) = ((x ||| y : Nat) : Int) := by
  have h : x ||| y < 2 ^ 62 := Nat.or_lt_two_pow hx hy
  have hb : (2 : Nat) ^ IntKind.bits .i64 = 18446744073709551616 := rfl
  have e : (BitVec.ofInt (IntKind.bits .i64) (x : Int) ||| BitVec.ofInt (IntKind.bits .i64) (y : Int)).toNat = x ||| y := by
    simp only [BitVec.ofInt_natCast, BitVec.toNat_or, BitVec.toNat_ofNat]
    rw [hb, Nat.mod_eq_of_lt (by omega), Nat.mod_eq_of_lt (by omega)]
  rw [bOr, e]
  exact wi64_id (by omega)
theorem bShl_i64 (x n : Nat) (hn : n ≤ 64) (h : x * 2 ^ n < 2 ^ 62) : bShl .i64 (x : Int) (n : Int) = ((x * 2 ^ n : Nat) : Int) := by
  have hm : min n 64 = n := by omega
  have : bShl .i64 (x : Int) (n : Int) = wi64 ((x : Int) * 2 ^ (min n 64)) := rfl
  rw [this, hm]
  have e : (x : Int) * 2 ^ n = ((x * 2 ^ n : Nat) : Int) := by push_cast; rfl
  rw [e]
  exact wi64_id (by omega)
theorem bAnd127 (n : Nat) (h : n < 256) : bAnd .u8 (n : Int) 127 = ((n % 128 : Nat) : Int) := by
  have e3 := bAnd_nat (k := .u8) rfl n 127 (by show _ < 256; omega) (by show _ < 256; omega)
  refine e3.trans ?_
  have := Nat.and_two_pow_sub_one_eq_mod n 7
  rw [show (127 : Nat) = 2 ^ 7 - 1 from rfl, this]
/-- the number that bytes begin with, canonical or not -/
def rawN : Nat → List Int → Option (Nat × List Int)
  | 0, _ => none
  | _ + 1, [] => none
  | f + 1, b :: r => if b < 128 then some (b.toNat, r) else match rawN f r with
    | some (n, r') => some (b.toNat - 128 + 128 * n, r')
    | none => none
theorem decN_raw : ∀ (f : Nat) (l : List Int) (n : Nat) (r : List Int), decN f l = some (n, r) → rawN f l = some (n, r)
  | 0, l, n, r, h => by simp [decN] at h
  | f + 1, [], n, r, h => by simp [decN] at h
  | f + 1, b :: l, n, r, h => by
    simp only [decN] at h
    simp only [rawN]
    by_cases h1 : b < 128
    · rw [if_pos h1] at h ⊢; exact h
    · rw [if_neg h1] at h ⊢
      cases h2 : decN f l with
      | none => rw [h2] at h; cases h
      | some p =>
        rw [h2] at h
        rw [decN_raw f l p.1 p.2 h2]
        simp only at h ⊢
        split at h
        · cases h
        · exact h
/-- what a reading gives -/
def getR (l : List Int) : Int × List Int × Bool := match getN l with
  | some (n, r) => ((n : Int), r, true)
  | none => (0, [], false)
theorem getN_none {l : List Int} {n : Nat} {r : List Int} (hl : isB l) (hr : rawN 8 l = some (n, r)) (h : ¬ (n ≤ 1125899906842624 ∧ numL n ++ r = l)) : getN l = none := by
  cases e : getN l with
  | none => rfl
  | some p =>
    obtain ⟨e1, e2⟩ := getN_inv hl (n := p.1) (r := p.2) e
    have e3 : decN 8 l = some (p.1, p.2) := by
      unfold getN at e
      cases h2 : decN 8 l with
      | none => rw [h2] at e; cases e
      | some q =>
        rw [h2] at e
        simp only at e
        split at e
        · cases e; rfl
        · cases e
    have e4 := decN_raw _ _ _ _ e3
    rw [hr] at e4
    simp only [Option.some.injEq, Prod.mk.injEq] at e4
    exact absurd ⟨by omega, by rw [e4.1, e4.2]; exact e1.symm⟩ h
theorem getN_noraw {l : List Int} (hr : rawN 8 l = none) : getN l = none := by
  unfold getN
  cases h2 : decN 8 l with
  | none => rfl
  | some q => rw [decN_raw 8 l q.1 q.2 h2] at hr; cases hr
end Go.Cen
