/- NAME: the law that the program and the document agree. -/
import Derived.Test.YtlojedndicppeaaGreatDoorGUtf8A
import Derived.Test.YtlojedndicppeaaGreatDoorPx
import Derived.Test.YtlojedndicppeaaGreatDoorCenMa
import Derived.Test.YtlojedndicppeaaGreatDoorCenPl
set_option linter.unusedVariables false
set_option linter.unusedSimpArgs false
namespace Go.Cen
theorem fidx_none {α : Type} (p : α → Bool) (xs : List α) (h : fidx p xs < 0) : xs.all (fun x => !p x) = true := by
  have h4 := fidx_any p xs
  have h5 : decide (fidx p xs ≥ 0) = false := by simp; omega
  rw [h5] at h4
  rw [List.all_eq_not_any_not]
  simp [← h4]
/-! ### the reference's Valid -/
def oddR (r : Int) : Bool := decide (r < 32) || ((r == 47) || ((decide (127 ≤ r) && decide (r ≤ 159)) || ((r == 65533) || decide (r ≥ 1114112))))
theorem odd_rune {l : List Int} (h : isB l) (hl : l ≠ []) : oddR (runeI l) = oddN ((dec l).1 : Int) := by
  unfold runeI
  by_cases hb : bad l
  · rw [if_pos hb, bad_w hb]
    have b0 := bn_lt h 0
    have : decide ((1114112 + (bn l 0 : Int)) ≥ 1114112) = true := by simp; omega
    unfold oddR oddN
    rw [this]
    simp
  · rw [if_neg hb]
    have hle : (dec l).1 ≤ 1114111 := by
      rcases dec_cases l hl h with ⟨a, e⟩ | ⟨_, e⟩ | ⟨_, _, _, a, _⟩
      · rw [e]; simp only; omega
      · exact absurd e hb
      · exact a
    have : decide (((dec l).1 : Int) ≥ 1114112) = false := by simp; omega
    unfold oddR oddN
    rw [this, Bool.or_false]
theorem segs_all : ∀ l, isB l → segsOk l = (runesL l).all (fun r => !oddR r) := by
  refine seg_ind (by rw [segsOk_nil, runesL_nil]; rfl) (fun l hl hB ih => ?_)
  rw [segsOk_cons hl, runesL_cons hl, List.all_cons, odd_rune hB hl, ih]
theorem first_rune {l : List Int} (h : isB l) (hl : l ≠ []) : runeI l = 32 ↔ bn l 0 = 32 := by
  have b0 := bn_lt h 0
  unfold runeI
  by_cases hb : bad l
  · rw [if_pos hb]
    constructor
    · intro h; omega
    · intro h0
      have := dec_small (l := l) (by omega)
      rw [bad_w hb, h0] at this; simp at this
  · rw [if_neg hb]
    rcases dec_cases l hl h with ⟨a, e⟩ | ⟨_, e⟩ | ⟨_, a, b, _⟩
    · rw [e]; simp only; omega
    · exact absurd e hb
    · omega
theorem last_rune : ∀ l, isB l → ((runesL l).getLast? = some 32 ↔ l.getLast? = some 32) := by
  refine seg_ind (by rw [runesL_nil]) (fun l hl hB ih => ?_)
  have hw := dec_w l hl
  rw [runesL_cons hl]
  by_cases hd : l.drop (dec l).2 = []
  · have hall : l.take (dec l).2 = l := List.take_of_length_le (List.drop_eq_nil_iff.1 hd)
    rw [hd, runesL_nil]
    simp only [List.getLast?_singleton, Option.some.injEq]
    by_cases h2 : 2 ≤ (dec l).2
    · have hnb : ¬ bad l := fun e => by rw [bad_w e] at h2; simp at h2
      have hh := take_high hB hl hnb h2
      rw [hall] at hh
      rw [first_rune hB hl]
      constructor
      · intro e
        have := hh l[0] (List.getElem_mem _)
        have e2 := gt_bn hB 0
        rw [show ((0 : Nat) : Int) = 0 from rfl] at e2
        have e3 := gt_nat l 0 (by omega)
        rw [show ((0 : Nat) : Int) = 0 from rfl] at e3
        omega
      · intro e
        have := hh 32 (List.mem_of_getLast? e)
        omega
    · have e2 : (dec l).2 = 1 := by omega
      have hl1 : l = [(bn l 0 : Int)] := by rw [e2, take1 hB (by omega)] at hall; exact hall.symm
      rw [first_rune hB hl]
      constructor
      · intro e
        rw [hl1, e]; rfl
      · intro e
        rw [hl1] at e
        simp only [List.getLast?_singleton, Option.some.injEq] at e
        omega
  · have hr : runesL (l.drop (dec l).2) ≠ [] := by rw [runesL_cons hd]; simp
    have e1 : (runeI l :: runesL (l.drop (dec l).2)).getLast? = (runesL (l.drop (dec l).2)).getLast? := by
      obtain ⟨a, r, e⟩ := List.exists_cons_of_ne_nil hr
      rw [e, List.getLast?_cons_cons]
    have e2 : l.getLast? = (l.drop (dec l).2).getLast? := by
      conv => lhs; rw [← List.take_append_drop (dec l).2 l]
      rw [List.getLast?_append]
      cases hq : (l.drop (dec l).2).getLast? with
      | none => exact absurd (List.getLast?_eq_none_iff.1 hq) hd
      | some v => rfl
    rw [e1, e2]; exact ih
theorem last_bn {l : List Int} (h : isB l) (hl : l ≠ []) : l.getLast? = some 32 ↔ bn l (l.length - 1) = 32 := by
  have hlen := List.length_pos_iff.2 hl
  rw [List.getLast?_eq_getElem?, List.getElem?_eq_getElem (by omega)]
  have := gt_bn h (l.length - 1)
  rw [gt_nat l (l.length - 1) (by omega)] at this
  simp only [Option.some.injEq]
  omega
theorem valid_step (r : Int) : (if decide (r < 32) = true then some true else (if (r == 47) = true then some true else (if decide (r ≥ 127) = true then (if decide (r ≤ 159) = true then some true else (if (r == 65533) = true then some true else some (decide (r ≥ 1114112)))) else (if (r == 65533) = true then some true else some (decide (r ≥ 1114112)))))) = some (oddR r) := by
  unfold oddR
  by_cases h3 : r ≥ 127
  · have h3' : (127 : Int) ≤ r := h3
    simp only [orS, h3, h3', decide_true, if_true, Bool.true_and]
  · have h3' : ¬ (127 : Int) ≤ r := h3
    simp only [orS, h3, h3', decide_false, Bool.false_eq_true, if_false, Bool.false_and, Bool.false_or]
theorem ref03_Valid_str {l : List Int} (hB : isB l) (hn : l.length ≤ 100000) : ref03_Valid (strOfNums l) = some (validN l) := by
  unfold ref03_Valid validN
  rw [ref03_Runes_str hB (by omega)]
  simp only [Option.bind_some]
  obtain ⟨R, hR⟩ : ∃ R, R = runesL l := ⟨_, rfl⟩
  have hRl : R.length = cnt l := by rw [hR]; rfl
  have hcl := cnt_le l hB
  rw [← hR, hRl]
  by_cases h1 : 0 < cnt l
  · have hne : l ≠ [] := by intro e; rw [e, cnt_nil] at h1; omega
    have hRne : R ≠ [] := by intro e; rw [e] at hRl; simp at hRl; omega
    have d1 : decide ((cnt l : Int) < 1) = false := by simp; omega
    by_cases h2 : cnt l ≤ 24
    · have d2 : decide ((cnt l : Int) > 24) = false := by simp; omega
      have hw : wi64 ((cnt l : Int) - 1) = ((cnt l - 1 : Nat) : Int) := by rw [wi64_id (by omega)]; omega
      have g0 : gt R 0 = runeI l := by rw [hR, runesL_cons hne]; rfl
      have gl : gt R ((cnt l - 1 : Nat) : Int) = 32 ↔ bn l (l.length - 1) = 32 := by
        have hi : R.length - 1 = cnt l - 1 := by omega
        have hlt : cnt l - 1 < R.length := by omega
        rw [gt_nat R (cnt l - 1) hlt, ← last_bn hB hne, ← last_rune l hB, ← hR, List.getLast?_eq_getElem?]
        simp only [hi, List.getElem?_eq_getElem hlt, Option.some.injEq]
      have f0 := first_rune hB hne
      simp only [d1, d2, Bool.false_eq_true, if_false, g0, hw, h1, h2, decide_true, Bool.true_and]
      have gA : (0 : Int) ≤ 0 ∧ (0 : Int) < (cnt l : Int) := by omega
      have gB : (0 : Int) ≤ ((cnt l - 1 : Nat) : Int) ∧ ((cnt l - 1 : Nat) : Int) < (cnt l : Int) := by omega
      rw [if_pos gA]
      simp only [if_pos gB, orS, Option.bind_some]
      have hloop := loop_idx R (by omega) oddR (fun _ => false) (fun k i => ref03_Valid.l0 R k i)
        (fun k hd => by simp only [ref03_Valid.l0, hd]; rfl)
        (fun k i hi hd hg hw => by simp only [decide_true, if_true, and_self, Option.bind_some, ref03_Valid.l0, hd, hg, hw, valid_step])
      have hseg := segs_all l hB
      rw [← hR] at hseg
      by_cases c : bn l 0 = 32 ∨ bn l (l.length - 1) = 32
      · have e : ((runeI l == 32) || (gt R ((cnt l - 1 : Nat) : Int) == 32)) = true := by
          simp only [Bool.or_eq_true, beq_iff_eq, f0, gl]; exact c
        have e2 : ((bn l 0 != 32) && (bn l (l.length - 1) != 32)) = false := by
          rcases c with c | c <;> simp [c]
        simp only [e, if_true, e2, Bool.and_false]
      · have e : ((runeI l == 32) || (gt R ((cnt l - 1 : Nat) : Int) == 32)) = false := by
          rw [Bool.eq_false_iff]
          simp only [ne_eq, Bool.or_eq_true, beq_iff_eq, f0, gl]; exact c
        have e2 : ((bn l 0 != 32) && (bn l (l.length - 1) != 32)) = true := by
          simp only [Bool.and_eq_true, bne_iff_ne]
          exact ⟨fun h => c (.inl h), fun h => c (.inr h)⟩
        simp only [e, Bool.false_eq_true, if_false, e2, Bool.and_true, hloop]
        rw [hseg]
        by_cases hf : fidx oddR R < 0
        · rw [if_pos hf, fidx_none _ _ hf]; rfl
        · rw [if_neg hf]
          have h4 := fidx_any oddR R
          have h5 : decide (fidx oddR R ≥ 0) = true := by simp; omega
          rw [h5] at h4
          have h6 : R.all (fun r => !oddR r) = false := by
            rw [List.all_eq_not_any_not]
            simp [← h4]
          rw [h6]; rfl
    · have d2 : decide ((cnt l : Int) > 24) = true := by simp; omega
      simp [d1, d2, h2]
  · have d1 : decide ((cnt l : Int) < 1) = true := by simp; omega
    simp [d1, h1]
end Go.Cen

/- WIRE: numbers as bytes, both ways. -/
set_option linter.unusedVariables false
set_option linter.unusedSimpArgs false
namespace Go.Cen
/-- a number's bytes -/
def numL (n : Nat) : List Int := if n < 128 then [(n : Int)] else ((n % 128 + 128 : Nat) : Int) :: numL (n / 128)
termination_by n
decreasing_by omega
theorem numL_lt {n : Nat} (h : n < 128) : numL n = [(n : Int)] := by rw [numL, if_pos h]
theorem numL_ge {n : Nat} (h : ¬ n < 128) : numL n = ((n % 128 + 128 : Nat) : Int) :: numL (n / 128) := by rw [numL, if_neg h]
theorem numL_isB (n : Nat) : isB (numL n) := by
  induction n using Nat.strongRecOn with
  | _ n ih =>
    intro x hx
    by_cases h : n < 128
    · rw [numL_lt h] at hx; simp at hx; omega
    · rw [numL_ge h] at hx
      rcases List.mem_cons.1 hx with rfl | hx
      · omega
      · exact ih (n / 128) (by omega) x hx
theorem numL_ne (n : Nat) : numL n ≠ [] := by
  by_cases h : n < 128
  · rw [numL_lt h]; simp
  · rw [numL_ge h]; simp
theorem numL_pos (n : Nat) : 1 ≤ (numL n).length := by
  have := numL_ne n
  cases h : numL n with
  | nil => exact absurd h this
  | cons a r => simp
/-- how long a number is -/
theorem numL_len : ∀ (f n : Nat), n < 128 ^ (f + 1) → (numL n).length ≤ f + 1
  | 0, n, h => by
    rw [numL_lt (by simpa using h)]; simp
  | f + 1, n, h => by
    by_cases h1 : n < 128
    · rw [numL_lt h1]; simp
    · rw [numL_ge h1]
      have := numL_len f (n / 128) (Nat.div_lt_of_lt_mul (by rw [Nat.pow_succ] at h; omega))
      simp only [List.length_cons]; omega
def clampN (a : Int) : Nat := (if 1125899906842624 < (if 0 > a then 0 else a) then 1125899906842624 else if 0 > a then 0 else a).toNat
theorem clampN_le (a : Int) : clampN a ≤ 1125899906842624 := by unfold clampN; split <;> (try split) <;> omega
theorem clampN_id {a : Int} (h0 : 0 ≤ a) (h : a ≤ 1125899906842624) : (clampN a : Int) = a := by
  have h1 : (if 0 > a then 0 else a) = a := if_neg (by omega)
  unfold clampN
  rw [h1, if_neg (by omega)]; omega
theorem or128 : ∀ m < 256, (m ||| 128) = m % 128 + 128 := by decide +kernel
theorem LIM_ge : 1000000000 ≤ LIM := by decide +kernel
theorem wNum_l0 : ∀ (f k n : Nat) (xs : List Int), n < 128 ^ (f + 1) → f < k → xs.length + f + 5 ≤ LIM → ∃ (m : Nat) (ys : List Int), wire_Num.l0 k (n : Int) xs = some ((m : Int), xs ++ ys) ∧ m < 128 ∧ ys ++ [(m : Int)] = numL n ∧ ys.length ≤ f
  | f, 0, n, xs, h, hk, _ => by omega
  | 0, k + 1, n, xs, h, hk, hL => by
    have h1 : n < 128 := by simpa using h
    refine ⟨n, [], ?_, h1, by rw [numL_lt h1]; rfl, by simp⟩
    have : decide ((n : Int) ≥ 128) = false := by simp; omega
    simp only [wire_Num.l0, this, List.append_nil]
    rfl
  | f + 1, k + 1, n, xs, h, hk, hL => by
    by_cases h1 : n < 128
    · refine ⟨n, [], ?_, h1, by rw [numL_lt h1]; rfl, by simp⟩
      have : decide ((n : Int) ≥ 128) = false := by simp; omega
      simp only [wire_Num.l0, this, List.append_nil]
      rfl
    · have hd : decide ((n : Int) ≥ 128) = true := by simp; omega
      have e1 : bOr .u8 (wu8 (n : Int)) 128 = ((n % 128 + 128 : Nat) : Int) := by
        have e2 : wu8 (n : Int) = ((n % 256 : Nat) : Int) := by rw [wu8_eq]; omega
        have e3 := bOr_nat (k := .u8) rfl (n % 256) 128 (by show _ < 256; omega) (by show _ < 256; omega)
        rw [e2]
        refine e3.trans ?_
        have : ((n % 256) ||| 128) = n % 128 + 128 := by
          have h8 := or128 (n % 256) (by omega)
          omega
        rw [this]
      have e2 : bShr .i64 (n : Int) 7 = ((n / 128 : Nat) : Int) := by
        have := bShr_eq (k := .i64) (x := (n : Int)) (n := 7) (by decide)
        refine Eq.trans this ?_
        norm_cast
      obtain ⟨m, ys, g1, g2, g3, g4⟩ := wNum_l0 f k (n / 128) (xs ++ [((n % 128 + 128 : Nat) : Int)]) (Nat.div_lt_of_lt_mul (by rw [Nat.pow_succ] at h; omega)) (by omega) (by simp; omega)
      refine ⟨m, ((n % 128 + 128 : Nat) : Int) :: ys, ?_, g2, ?_, by simp; omega⟩
      · have hg : xs.length + [((n % 128 + 128 : Nat) : Int)].length ≤ LIM := by simp; omega
        simp only [wire_Num.l0, hd, if_true, e1]
        rw [if_pos hg, e2, g1]
        simp
      · rw [numL_ge h1, List.cons_append, g3]
theorem wire_Num_eq (a : Int) : wire_Num a = some (strOfNums (numL (clampN a))) := by
  have hL := LIM_ge
  have hc := clampN_le a
  have e : (if 1125899906842624 < (if 0 > a then 0 else a) then 1125899906842624 else if 0 > a then 0 else a) = ((clampN a : Nat) : Int) := by
    unfold clampN; split <;> (try split) <;> omega
  obtain ⟨k, hk, hk2⟩ := FU_succ 100 (by omega)
  obtain ⟨m, ys, g1, g2, g3, g4⟩ := wNum_l0 7 FU (clampN a) [] (by omega) (by rw [hk]; omega) (by simp; omega)
  have e2 : wu8 (m : Int) = (m : Int) := by rw [wu8_eq]; omega
  unfold wire_Num
  rw [e, g1]
  have hg : (([] : List Int) ++ ys).length + [(m : Int)].length ≤ LIM := by simp; omega
  simp only [Option.bind_some, e2]
  rw [if_pos hg]
  simp only [List.nil_append, g3]
theorem rNum_l0 : ∀ (f k n : Nat) (xs : List Int), n < 128 ^ (f + 1) → n ≤ 1125899906842624 → f < k → xs.length + f + 5 ≤ LIM → ∃ (m : Nat) (ys : List Int), ref04_Num.l0 k (n : Int) xs = some ((m : Int), xs ++ ys) ∧ m < 128 ∧ ys ++ [(m : Int)] = numL n ∧ ys.length ≤ f
  | f, 0, n, xs, h, _, hk, _ => by omega
  | 0, k + 1, n, xs, h, _, hk, hL => by
    have h1 : n < 128 := by simpa using h
    refine ⟨n, [], ?_, h1, by rw [numL_lt h1]; rfl, by simp⟩
    have : decide ((n : Int) ≥ 128) = false := by simp; omega
    simp only [ref04_Num.l0, this, List.append_nil]
    rfl
  | f + 1, k + 1, n, xs, h, h50, hk, hL => by
    by_cases h1 : n < 128
    · refine ⟨n, [], ?_, h1, by rw [numL_lt h1]; rfl, by simp⟩
      have : decide ((n : Int) ≥ 128) = false := by simp; omega
      simp only [ref04_Num.l0, this, List.append_nil]
      rfl
    · have hd : decide ((n : Int) ≥ 128) = true := by simp; omega
      have e0 : (n : Int).tmod 128 = ((n % 128 : Nat) : Int) := by rw [Int.tmod_eq_emod_of_nonneg (by omega)]; omega
      have e1 : wu8 (wi64 ((n : Int).tmod 128 + 128)) = ((n % 128 + 128 : Nat) : Int) := by
        rw [e0, wi64_id (by omega), wu8_eq]; omega
      have e2 : wi64 ((n : Int).tdiv 128) = ((n / 128 : Nat) : Int) := by
        rw [Int.tdiv_eq_ediv_of_nonneg (by omega), wi64_id (by omega)]; omega
      obtain ⟨m, ys, g1, g2, g3, g4⟩ := rNum_l0 f k (n / 128) (xs ++ [((n % 128 + 128 : Nat) : Int)]) (Nat.div_lt_of_lt_mul (by rw [Nat.pow_succ] at h; omega)) (by omega) (by omega) (by simp; omega)
      refine ⟨m, ((n % 128 + 128 : Nat) : Int) :: ys, ?_, g2, ?_, by simp; omega⟩
      · have hg : xs.length + [((n % 128 + 128 : Nat) : Int)].length ≤ LIM := by simp; omega
        simp only [ref04_Num.l0, hd, if_true, e1]
        rw [if_pos hg, e2, g1]
        simp
      · rw [numL_ge h1, List.cons_append, g3]
theorem ref04_Num_eq (a : Int) : ref04_Num a = some (strOfNums (numL (clampN a))) := by
  have hL := LIM_ge
  have hc := clampN_le a
  have e : (if 1125899906842624 < (if 0 > a then 0 else a) then 1125899906842624 else if 0 > a then 0 else a) = ((clampN a : Nat) : Int) := by
    unfold clampN; split <;> (try split) <;> omega
  obtain ⟨k, hk, hk2⟩ := FU_succ 100 (by omega)
  obtain ⟨m, ys, g1, g2, g3, g4⟩ := rNum_l0 7 FU (clampN a) [] (by omega) hc (by rw [hk]; omega) (by simp; omega)
  have e2 : wu8 (m : Int) = (m : Int) := by rw [wu8_eq]; omega
  unfold ref04_Num
  rw [e, g1]
  have hg : (([] : List Int) ++ ys).length + [(m : Int)].length ≤ LIM := by simp; omega
  simp only [Option.bind_some, e2]
  rw [if_pos hg]
  simp only [List.nil_append, g3]
end Go.Cen

/- EVENT: whether an event may be, and its bytes. -/
set_option linter.unusedVariables false
set_option linter.unusedSimpArgs false
namespace Go.Cen
def z32 : List Int := List.replicate 32 0
def nmOk (s : ByteArray) : Bool := validN (byts s)
theorem name_Valid_eq (s : ByteArray) (h : s.size ≤ 100000) : name_Valid s = some (nmOk s) := by
  have := name_Valid_str (l := byts s) (byts_isB s) (by rw [byts_len]; exact Nat.le_trans h (by decide))
  rwa [strOfNums_byts] at this
def timeOk (t : Int) : Bool := decide (0 ≤ t) && decide (t ≤ 1099511627776)
def idOk (i : Int) : Bool := decide (1 ≤ i) && decide (i ≤ 1099511627776)
def lenOk (lo n : Int) : Bool := decide (lo ≤ n) && decide (n ≤ 600)
def noS (s : ByteArray) : Bool := seq s (⟨#[]⟩ : ByteArray)
def noD (d : List Int) : Bool := eqA d z32
theorem within_eq (a b c : Int) : event_within a b c = some (decide (b ≤ a) && decide (a ≤ c)) := by
  unfold event_within
  by_cases h : b ≤ a
  · simp [h]
  · simp [h]
/-- what an event tells -/
def partsE (e : ApiEvent) : List Dyn88 :=
  if e.Kind = 0 ∨ e.Kind = 4 ∨ e.Kind = 5 then [.i111 e.ID, .i108 e.Name] else if e.Kind = 1 then [.i111 e.ID, .i111 e.Len] else if e.Kind = 2 then [.i111 e.ID, .i111 e.Time, .i111 e.Len, .i112 e.Sum]
  else if e.Kind = 3 then [.i111 e.ID, .i111 e.Time] else if e.Kind = 6 then [.i111 e.ID] else if e.Kind = 7 then [.i111 e.Time] else []
theorem parts_eq (e : ApiEvent) : event_parts e = some (partsE e) := by
  unfold event_parts partsE
  by_cases h0 : e.Kind = 0
  · simp [h0]
  · by_cases h4 : e.Kind = 4
    · simp [h4]
    · by_cases h5 : e.Kind = 5
      · simp [h5]
      · by_cases h1 : e.Kind = 1
        · simp [h1]
        · by_cases h2 : e.Kind = 2
          · simp [h2]
          · by_cases h3 : e.Kind = 3
            · simp [h3]
            · by_cases h6 : e.Kind = 6
              · simp [h6]
              · by_cases h7 : e.Kind = 7
                · simp [h7]
                · simp [h0, h1, h2, h3, h4, h5, h6, h7]
def okD (d : Dyn88) : Prop := match d with | .nil => False | .i111 _ => True | .i108 s => s.size ≤ 100000 | .i112 d => d.length = 32 ∧ isB d
def okE (e : ApiEvent) : Prop := e.Name.size ≤ 100000 ∧ e.Sum.length = 32 ∧ isB e.Sum
theorem parts_ok {e : ApiEvent} (h : okE e) : ∀ d ∈ partsE e, okD d := by
  intro d hd
  unfold partsE at hd
  repeat' split at hd
  all_goals simp at hd
  all_goals (try (rcases hd with rfl | rfl | rfl | rfl) <;> (try trivial) <;> first | exact h.1 | exact h.2)
  all_goals (try (rcases hd with rfl | rfl) <;> (try trivial) <;> first | exact h.1 | exact h.2)
  all_goals (try subst hd; trivial)
theorem parts_len (e : ApiEvent) : (partsE e).length ≤ 4 := by
  unfold partsE
  repeat' split
  all_goals simp
def nums : List Dyn88 → List Int
  | [] => []
  | .i111 a :: r => a :: nums r
  | _ :: r => nums r
def upd : List Dyn88 → ApiEvent → ApiEvent
  | [], e => e
  | .i108 s :: r, e => upd r { e with Name := s }
  | .i112 d :: r, e => upd r { e with Sum := d }
  | _ :: r, e => upd r e
theorem of_l0 (l : List Dyn88) (hl : ∀ d ∈ l, okD d) (hn : l.length ≤ 1000) (e : ApiEvent) : event_of.l0 l FU [] 0 e = some (nums l, upd l e) := by
  have hL := LIM_val
  have := loopI l (by omega) (fun k i (s : List Int × ApiEvent) => event_of.l0 l k s.1 i s.2) (fun r s => some (s.1 ++ nums r, upd r s.2)) (fun r s => s.1.length + r.length ≤ 1000)
    (fun k s hd hI => by simp only [event_of.l0, hd, nums, upd, List.append_nil]; rfl)
    (fun k i x r s hi hlen hm hd hg hx hw hI ih => by
      have hok := hl x hm
      simp only [List.length_cons] at hI
      simp only [event_of.l0, hd, if_true, hg, and_self, hx]
      cases x with
      | nil => exact hok.elim
      | i111 a =>
        have hq : s.1.length + ([a] : List Int).length ≤ LIM := by simp only [List.length_cons, List.length_nil]; omega
        simp only [hq, if_true, Option.bind_some, hw]
        have := ih (s.1 ++ [a], s.2) (by simp only [List.length_append, List.length_cons, List.length_nil]; omega)
        simp only at this
        rw [this]; simp [nums, upd]
      | i108 a =>
        simp only [Option.bind_some, hw]
        have := ih (s.1, { s.2 with Name := a }) (by simp only; omega)
        simp only at this
        rw [this]; simp [nums, upd]
      | i112 a =>
        simp only
        rw [if_pos hok.1]
        simp only [Option.bind_some, hw]
        have := ih (s.1, { s.2 with Sum := a }) (by simp only; omega)
        simp only at this
        rw [this]; simp [nums, upd]) ([], e) (by simpa using hn)
  simpa using this
/-- the last name among parts -/
def namedL : List Dyn88 → Bool → Bool
  | [], b => b
  | .i108 s :: r, _ => namedL r (nmOk s)
  | _ :: r, b => namedL r b
theorem valid_l0 (l : List Dyn88) (hl : ∀ d ∈ l, okD d) (hn : l.length ≤ 1000) (b : Bool) : event_Valid.l0 l FU b 0 = some (namedL l b) := by
  have := loopG l (by omega) (fun k i (s : Bool) => event_Valid.l0 l k s i) (fun r s => some (namedL r s))
    (fun k s hd => by simp only [event_Valid.l0, hd, namedL]; rfl)
    (fun k i x r s hi hlen hd hg hx hw ih => by
      have hm : x ∈ l := by rw [← hx, gt_nat l i hi]; exact List.getElem_mem _
      have hok := hl x hm
      simp only [event_Valid.l0, hd, if_true, hg, and_self, hx]
      cases x with
      | nil => exact hok.elim
      | i111 a => simp only [Option.bind_some, hw]; rw [ih]; simp [namedL]
      | i108 a => simp only [name_Valid_eq a hok, Option.bind_some, hw]; rw [ih]; simp [namedL]
      | i112 a =>
        simp only
        rw [if_pos hok.1]
        simp only [Option.bind_some, hw]; rw [ih]; simp [namedL]) b
  exact this
def bytD : Dyn88 → List Int
  | .nil => []
  | .i111 a => numL (clampN a)
  | .i108 s => numL (clampN (s.size : Int)) ++ byts s
  | .i112 d => d
theorem clampN_len (a : Int) : (numL (clampN a)).length ≤ 8 := numL_len 7 (clampN a) (by have := clampN_le a; omega)
theorem bytD_isB {d : Dyn88} (h : okD d) : isB (bytD d) := by
  cases d with
  | nil => exact isB_nil
  | i111 a => exact numL_isB _
  | i108 s => exact isB_app (numL_isB _) (byts_isB s)
  | i112 d => exact h.2
theorem bytD_len {d : Dyn88} (h : okD d) : (bytD d).length ≤ 100008 := by
  cases d with
  | nil => simp [bytD]
  | i111 a => have := clampN_len a; simp only [bytD]; omega
  | i108 s =>
    have h1 := clampN_len (s.size : Int)
    have h2 : s.size ≤ 100000 := h
    simp only [bytD, List.length_append, byts_len]; omega
  | i112 d => have := h.1; simp only [bytD]; omega
theorem wire_Text_eq (s : ByteArray) (h : s.size ≤ 100000) : wire_Text s = some (strOfNums (numL (clampN (s.size : Int)) ++ byts s)) := by
  have hL := LIM_val
  have := clampN_len (s.size : Int)
  unfold wire_Text
  rw [wire_Num_eq]
  simp only [Option.bind_some, strOfNums_size]
  rw [if_pos (by omega)]
  congr 1
  rw [← strOfNums_append, strOfNums_byts]
theorem put_l0 (l : List Dyn88) (hl : ∀ d ∈ l, okD d) (hn : l.length ≤ 10) (xs : List Int) (hx : xs.length ≤ 100) : event_Put.l0 l FU (strOfNums xs) 0 = some (strOfNums (xs ++ l.flatMap bytD)) := by
  have hL := LIM_val
  have := loopI l (by omega) (fun k i (s : List Int) => event_Put.l0 l k (strOfNums s) i) (fun r s => some (strOfNums (s ++ r.flatMap bytD))) (fun r s => s.length + 100008 * r.length ≤ 10000000)
    (fun k s hd hI => by simp only [event_Put.l0, hd, List.flatMap_nil, List.append_nil]; rfl)
    (fun k i x r s hi hlen hm hd hg hx hw hI ih => by
      have hok := hl x hm
      have hb := bytD_len hok
      simp only [List.length_cons] at hI
      simp only [event_Put.l0, hd, if_true, hg, and_self, hx]
      have step : event_Put.l0 l k (strOfNums s ++ strOfNums (bytD x)) (((i + 1 : Nat)) : Int) = some (strOfNums (s ++ (x :: r).flatMap bytD)) := by
        rw [strOfNums_append, ih (s ++ bytD x) (by rw [List.length_append]; omega)]
        simp
      cases x with
      | nil => exact hok.elim
      | i111 a =>
        have hq : s.length + (numL (clampN a)).length ≤ LIM := by simp only [bytD] at hb; omega
        simp only [event_number_put, wire_Num_eq, Option.bind_some, strOfNums_size, hq, if_true, hw]
        exact step
      | i108 a =>
        have hq : s.length + (numL (clampN (a.size : Int)) ++ byts a).length ≤ LIM := by simp only [bytD] at hb; omega
        simp only [event_text_put, wire_Text_eq a hok, Option.bind_some, strOfNums_size, hq, if_true, hw]
        exact step
      | i112 a =>
        have hq : s.length + a.length ≤ LIM := by simp only [bytD] at hb; omega
        have h32 : a.length = 32 := hok.1
        simp only [h32, if_true, event_sum_put, wire_Sum, Option.bind_some, strOfNums_size]
        rw [h32] at hq
        simp only [hq, if_true, Option.bind_some, hw]
        exact step) xs (by omega)
  exact this
def validE (e : ApiEvent) : Bool :=
  if e.Kind = 0 ∨ e.Kind = 4 ∨ e.Kind = 5 then idOk e.ID && (nmOk e.Name && ((e.Time == 0) && ((e.Len == 0) && noD e.Sum)))
  else if e.Kind = 1 then idOk e.ID && (noS e.Name && ((e.Time == 0) && (lenOk 1 e.Len && noD e.Sum)))
  else if e.Kind = 2 then idOk e.ID && (noS e.Name && (timeOk e.Time && lenOk 0 e.Len))
  else if e.Kind = 3 then idOk e.ID && (noS e.Name && (timeOk e.Time && ((e.Len == 0) && noD e.Sum)))
  else if e.Kind = 6 then idOk e.ID && (noS e.Name && ((e.Time == 0) && ((e.Len == 0) && noD e.Sum)))
  else if e.Kind = 7 then (e.ID == 0) && (noS e.Name && (timeOk e.Time && ((e.Len == 0) && noD e.Sum)))
  else false
theorem seq_symm (a b : ByteArray) : seq a b = seq b a := by rw [Bool.eq_iff_iff, seq_iff, seq_iff]; exact eq_comm
theorem eqA_symm (a b : List Int) : eqA a b = eqA b a := by rw [Bool.eq_iff_iff, eqA_iff, eqA_iff]; exact eq_comm
theorem seq_refl (s : ByteArray) : seq s s = true := (seq_iff s s).2 rfl
theorem eqA_refl (s : List Int) : eqA s s = true := (eqA_iff s s).2 rfl
end Go.Cen

/- EVENT: whether an event may be, and its bytes: both sides. -/
set_option linter.unusedVariables false
set_option linter.unusedSimpArgs false
namespace Go.Cen
def ofE (e : ApiEvent) : ApiEvent :=
  if e.Kind = 0 ∨ e.Kind = 4 ∨ e.Kind = 5 then ⟨e.Kind, e.ID, e.Name, 0, 0, z32⟩ else if e.Kind = 1 then ⟨e.Kind, e.ID, ⟨#[]⟩, 0, e.Len, z32⟩ else if e.Kind = 2 then ⟨e.Kind, e.ID, ⟨#[]⟩, e.Time, e.Len, e.Sum⟩
  else if e.Kind = 3 then ⟨e.Kind, e.ID, ⟨#[]⟩, e.Time, 0, z32⟩ else if e.Kind = 6 then ⟨e.Kind, e.ID, ⟨#[]⟩, 0, 0, z32⟩ else ⟨e.Kind, 0, ⟨#[]⟩, e.Time, 0, z32⟩
theorem of_l0' {k : Int} {l : List Dyn88} (hl : ∀ d ∈ l, okD d) (hn : l.length ≤ 1000) : event_of.l0 l FU ([] : List Int) 0 (ApiEvent.mk k 0 (⟨#[]⟩ : ByteArray) 0 0 (List.replicate 32 (0 : Int))) = some (nums l, upd l ⟨k, 0, ⟨#[]⟩, 0, 0, z32⟩) := of_l0 l hl hn _
theorem gt2 (a b c : Int) : gt [a, b, c] 2 = c := rfl
theorem gt1 (a b : Int) (r : List Int) : gt (a :: b :: r) 1 = b := rfl
theorem gt0' (a : Int) (r : List Int) : gt (a :: r) 0 = a := rfl
theorem kinds (k : Int) : k = 0 ∨ k = 4 ∨ k = 5 ∨ k = 1 ∨ k = 2 ∨ k = 3 ∨ k = 6 ∨ k = 7 ∨ (k ≠ 0 ∧ k ≠ 4 ∧ k ≠ 5 ∧ k ≠ 1 ∧ k ≠ 2 ∧ k ≠ 3 ∧ k ≠ 6 ∧ k ≠ 7) := by omega
theorem of_eq {e : ApiEvent} (h : okE e) (hk : partsE e ≠ []) : event_of e.Kind (partsE e) = some (ofE e) := by
  have hp := parts_ok h
  have hl := parts_len e
  unfold event_of
  rw [of_l0' hp (by omega)]
  rcases kinds e.Kind with k | k | k | k | k | k | k | k | ⟨k0, k4, k5, k1, k2, k3, k6, k7⟩
  all_goals first
    | (simp [partsE, ofE, k, nums, upd, gt2, gt1, gt0']; done)
    | (exfalso; exact hk (by simp [partsE, k0, k1, k2, k3, k4, k5, k6, k7]))
def leastE (e : ApiEvent) : Int := if e.Kind = 1 then 1 else 0
theorem event_Valid_raw {e : ApiEvent} (h : okE e) : event_Valid e = some (if partsE e = [] then false else (eq_ApiEvent (ofE e) e && (namedL (partsE e) true && ((e.Kind == 7 || idOk e.ID) && (timeOk e.Time && lenOk (leastE e) e.Len))))) := by
  have hp := parts_ok h
  have hl := parts_len e
  unfold event_Valid
  rw [parts_eq]
  simp only [Option.bind_some]
  by_cases hk : partsE e = []
  · rw [if_pos hk]
    simp [hk]
  · have hn : (((partsE e).length : Int) == 0) = false := by
      have := List.length_pos_iff.2 hk
      simp; exact hk
    rw [if_neg hk, hn, of_eq h hk]
    simp only [Bool.false_eq_true, if_false, Option.bind_some, valid_l0 _ hp (by omega), within_eq]
    have hm : (if (e.Kind == 1) = true then some (1 : Int) else some 0) = some (leastE e) := by unfold leastE; by_cases q : e.Kind = 1 <;> simp [q]
    rw [hm]
    simp only [Option.bind_some, idOk, timeOk, lenOk]
    cases eq_ApiEvent (ofE e) e <;> cases namedL (partsE e) true <;> cases q : e.Kind == 7 <;> cases (decide (1 ≤ e.ID) && decide (e.ID ≤ 1099511627776)) <;> cases (decide (0 ≤ e.Time) && decide (e.Time ≤ 1099511627776)) <;> simp [q]
theorem noS_eq (s : ByteArray) : noS s = true ↔ s = ⟨#[]⟩ := seq_iff s _
theorem event_Valid_eq {e : ApiEvent} (h : okE e) : event_Valid e = some (validE e) := by
  rw [event_Valid_raw h]
  congr 1
  rcases kinds e.Kind with k | k | k | k | k | k | k | k | ⟨k0, k4, k5, k1, k2, k3, k6, k7⟩
  case inr.inr.inr.inr.inr.inr.inr.inr => simp [partsE, validE, k0, k1, k2, k3, k4, k5, k6, k7]
  all_goals
    have a1 : seq (⟨#[]⟩ : ByteArray) e.Name = noS e.Name := seq_symm _ _
    have a2 : eqA z32 e.Sum = noD e.Sum := eqA_symm _ _
    have t0 : timeOk 0 = true := rfl
    have l0 : lenOk 0 0 = true := rfl
    have hT' : (0 : Int) = e.Time ↔ e.Time = 0 := eq_comm
    have hL' : (0 : Int) = e.Len ↔ e.Len = 0 := eq_comm
    have hI' : (0 : Int) = e.ID ↔ e.ID = 0 := eq_comm
    simp [partsE, validE, ofE, leastE, k, eq_ApiEvent, namedL, a1, a2, hT', hL', hI', seq_refl, eqA_refl]
    have bT : ((0 : Int) == e.Time) = (e.Time == 0) := BEq.comm
    have bL : ((0 : Int) == e.Len) = (e.Len == 0) := BEq.comm
    have bI : ((0 : Int) == e.ID) = (e.ID == 0) := BEq.comm
    have cT : (e.Time == 0) = true → timeOk e.Time = true := fun h => by rw [beq_iff_eq.1 h]; rfl
    have cL : (e.Len == 0) = true → lenOk 0 e.Len = true := fun h => by rw [beq_iff_eq.1 h]; rfl
    (try simp only [bT, bL, bI])
    cases hT : (e.Time == 0) <;> cases hL : (e.Len == 0)
    all_goals
      (try rw [cT hT]) <;> (try rw [cL hL])
    all_goals (try simp only [Bool.false_and, Bool.and_false, Bool.true_and, Bool.and_true])
    all_goals (try ac_rfl)
end Go.Cen

/- SHA: shifts that turn, words of a block: the code's and the reference's come to the same. -/
set_option linter.unusedVariables false
set_option linter.unusedSimpArgs false
namespace Go.Cen
def u32 (x : Int) : Prop := 0 ≤ x ∧ x < 4294967296
end Go.Cen

/- SHA: the words of a block. -/
set_option linter.unusedVariables false
set_option linter.unusedSimpArgs false
namespace Go.Cen
def u8 (x : Int) : Prop := 0 ≤ x ∧ x < 256
end Go.Cen

/- SHA: the digest of any text, both ways; a digest's digits. -/
set_option linter.unusedVariables false
set_option linter.unusedSimpArgs false
set_option maxRecDepth 100000
namespace Go.Cen
theorem size_sx (s : ByteArray) {a b : Int} (h : 0 ≤ a ∧ a ≤ b ∧ b ≤ (s.size : Int)) : ((sx s a b).size : Int) = b - a := by
  have := congrArg List.length (sx_byts s h)
  rw [byts_length, sub_length (byts s) (by rw [byts_length]; exact h)] at this
  omega
end Go.Cen

/- SHA: a digest's digits; links. -/
set_option linter.unusedVariables false
set_option linter.unusedSimpArgs false
set_option maxRecDepth 100000
namespace Go.Cen
def HEX : ByteArray := ⟨#[48, 49, 50, 51, 52, 53, 54, 55, 56, 57, 97, 98, 99, 100, 101, 102]⟩
def hexL : List Int := [48, 49, 50, 51, 52, 53, 54, 55, 56, 57, 97, 98, 99, 100, 101, 102]
theorem byts_HEX : byts HEX = hexL := by decide +kernel
def hexs (q : Int) : Int := gt hexL q
def nib (q : Int) : Prop := 0 ≤ q ∧ q < 16
theorem nib_cases {q : Int} {p : Int → Prop} (h : nib q) (hp : ∀ n : Nat, n < 16 → p (n : Int)) : p q := by
  obtain ⟨n, rfl⟩ := Int.eq_ofNat_of_zero_le h.1
  exact hp n (by have := h.2; omega)
theorem hexs_sub {q : Int} (h : nib q) : sub hexL q (q + 1) = [hexs q] :=
  nib_cases (p := fun q => sub hexL q (q + 1) = [hexs q]) h (by decide +kernel)
def isHex (c : Int) : Prop := 48 ≤ c ∧ c ≤ 57 ∨ 97 ≤ c ∧ c ≤ 102
theorem hexs_hex {q : Int} (h : nib q) : isHex (hexs q) :=
  nib_cases (p := fun q => isHex (hexs q)) h (by unfold isHex; decide +kernel)
def textL (d : List Int) : List Int := d.flatMap fun x => [hexs (x / 16), hexs (x % 16)]
theorem textL_length (d : List Int) : (textL d).length = 2 * d.length := by
  induction d with
  | nil => rfl
  | cons x r ih => simp only [textL, List.flatMap_cons, List.length_append, List.length_cons, List.length_nil] at ih ⊢; omega
theorem nib_of {x : Int} (h : u8 x) : nib (x / 16) ∧ nib (x % 16) := by
  obtain ⟨_, _⟩ := h; exact ⟨⟨by omega, by omega⟩, ⟨by omega, by omega⟩⟩
theorem textL_hex {d : List Int} (h : isB d) : ∀ c ∈ textL d, isHex c := by
  intro c hc
  simp only [textL, List.mem_flatMap, List.mem_cons, List.not_mem_nil, or_false] at hc
  obtain ⟨x, hx, rfl | rfl⟩ := hc
  · exact hexs_hex (nib_of (h x hx)).1
  · exact hexs_hex (nib_of (h x hx)).2
theorem textL_isB {d : List Int} (h : isB d) : isB (textL d) := by
  intro c hc
  rcases textL_hex h c hc with h | h <;> omega
theorem drop_gt (d : List Int) {i : Int} (h0 : 0 ≤ i) (h : i < d.length) : d.drop i.toNat = gt d i :: d.drop (i + 1).toNat := by
  obtain ⟨hl, e⟩ := gt_lt d h0 h
  rw [e, List.drop_eq_getElem_cons hl, show (i + 1).toNat = i.toNat + 1 by omega]
theorem isB_gt {d : List Int} (h : isB d) (j : Int) : u8 (gt d j) := gt_all (p := u8) h ⟨by decide, by decide⟩ j
theorem text_step {d : List Int} (hd : d.length = 32) (hB : isB d) : ∀ (n : Nat) (i : Int) (k : Nat) (acc : List Int), i = 32 - n → n ≤ 32 → n < k → acc.length ≤ 64 - 2 * n → sha_Text.l0 d k acc i = some (acc ++ textL (d.drop i.toNat)) := by
  intro n
  induction n with
  | zero =>
    intro i k acc hi _ hk _
    obtain ⟨k, rfl⟩ : ∃ m, k = m + 1 := ⟨k - 1, by omega⟩
    have : decide (i < 32) = false := decide_eq_false (by omega)
    have e : d.drop i.toNat = [] := List.drop_of_length_le (by omega)
    simp [sha_Text.l0, this, e, textL]
  | succ n ih =>
    intro i k acc hi hn hk hl
    obtain ⟨k, rfl⟩ : ∃ m, k = m + 1 := ⟨k - 1, by omega⟩
    have hlt : decide (i < 32) = true := decide_eq_true (by omega)
    have e1 : wi64 (i + 1) = i + 1 := wi64_id (by omega)
    have gi : 0 ≤ i ∧ i < 32 := ⟨by omega, by omega⟩
    have hx := isB_gt hB i
    have hnb := nib_of hx
    have s1 : bShr .u8 (gt d i) 4 = gt d i / 16 := bShr_eq (k := .u8) (x := gt d i) (n := 4) (by decide)
    have s2 : bAnd .u8 (gt d i) 15 = gt d i % 16 := by
      obtain ⟨v, hv⟩ := Int.eq_ofNat_of_zero_le hx.1
      have hv2 := hx.2
      have := bAnd_nat (k := .u8) rfl v 15 (by show v < 256; omega) (by decide)
      have h15 : v &&& 15 = v % 16 := Nat.and_two_pow_sub_one_eq_mod v 4
      rw [hv]
      rw [h15] at this
      exact this
    have hsz : ((HEX.size : Nat) : Int) = 16 := rfl
    have g1 : 0 ≤ gt d i / 16 ∧ gt d i / 16 < 16 := hnb.1
    have g2 : 0 ≤ gt d i % 16 ∧ gt d i % 16 < 16 := hnb.2
    have gl : ∀ a b : Int, acc.length + ([a, b] : List Int).length ≤ LIM := fun a b => by simp [LIM]; omega
    have hr := ih (i + 1) k (acc ++ [hexs (gt d i / 16), hexs (gt d i % 16)]) (by omega) (by omega) (by omega) (by simp; omega)
    rw [drop_gt d gi.1 (by omega)]
    simp only [sha_Text.l0, hlt, if_true, gi, and_self, s1, s2, e1]
    change (if 0 ≤ gt d i / 16 ∧ gt d i / 16 < ((HEX.size : Nat) : Int) then (if 0 ≤ gt d i % 16 ∧ gt d i % 16 < ((HEX.size : Nat) : Int) then (if acc.length + ([bt HEX (gt d i / 16), bt HEX (gt d i % 16)] : List Int).length ≤ LIM then sha_Text.l0 d k (acc ++ [bt HEX (gt d i / 16), bt HEX (gt d i % 16)]) (i + 1) else none) else none) else none) = _
    rw [hsz, if_pos g1, if_pos g2, if_pos (gl _ _), bt_eq, bt_eq, byts_HEX]
    rw [show gt hexL (gt d i / 16) = hexs (gt d i / 16) from rfl, show gt hexL (gt d i % 16) = hexs (gt d i % 16) from rfl, hr]
    simp [textL]
theorem ref_text_step {d : List Int} (hd : d.length = 32) (hB : isB d) : ∀ (n : Nat) (i : Int) (k : Nat) (acc : ByteArray), i = 32 - n → n ≤ 32 → n < k → acc.size ≤ 64 - 2 * n → ∃ s, ref02_Text.l0 d k acc i = some s ∧ byts s = byts acc ++ textL (d.drop i.toNat) := by
  intro n
  induction n with
  | zero =>
    intro i k acc hi _ hk _
    obtain ⟨k, rfl⟩ : ∃ m, k = m + 1 := ⟨k - 1, by omega⟩
    have : decide (i < 32) = false := decide_eq_false (by omega)
    have e : d.drop i.toNat = [] := List.drop_of_length_le (by omega)
    exact ⟨acc, by simp [ref02_Text.l0, this], by simp [e, textL]⟩
  | succ n ih =>
    intro i k acc hi hn hk hl
    obtain ⟨k, rfl⟩ : ∃ m, k = m + 1 := ⟨k - 1, by omega⟩
    have hlt : decide (i < 32) = true := decide_eq_true (by omega)
    have e1 : wi64 (i + 1) = i + 1 := wi64_id (by omega)
    have gi : 0 ≤ i ∧ i < 32 := ⟨by omega, by omega⟩
    have hx := isB_gt hB i
    obtain ⟨hx0, hx1⟩ := hx
    have hnb := nib_of ⟨hx0, hx1⟩
    obtain ⟨⟨a1, a2⟩, ⟨b1, b2⟩⟩ := hnb
    have w0 : wi64 (gt d i) = gt d i := wi64_id (by omega)
    have q1 : (gt d i).tdiv 16 = gt d i / 16 := Int.tdiv_eq_ediv_of_nonneg hx0
    have q2 : (gt d i).tmod 16 = gt d i % 16 := Int.tmod_eq_emod_of_nonneg hx0
    have w1 : wi64 (gt d i / 16) = gt d i / 16 := wi64_id (by omega)
    have w2 : wi64 (gt d i / 16 + 1) = gt d i / 16 + 1 := wi64_id (by omega)
    have w3 : wi64 (gt d i % 16 + 1) = gt d i % 16 + 1 := wi64_id (by omega)
    have hsz : ((HEX.size : Nat) : Int) = 16 := rfl
    have g1 : (0 : Int) ≤ gt d i / 16 ∧ gt d i / 16 ≤ gt d i / 16 + 1 ∧ gt d i / 16 + 1 ≤ ((HEX.size : Nat) : Int) := by rw [hsz]; omega
    have g2 : (0 : Int) ≤ gt d i % 16 ∧ gt d i % 16 ≤ gt d i % 16 + 1 ∧ gt d i % 16 + 1 ≤ ((HEX.size : Nat) : Int) := by rw [hsz]; omega
    have z1 := size_sx HEX g1
    have z2 := size_sx HEX g2
    have y1 := sx_byts HEX g1
    have y2 := sx_byts HEX g2
    rw [byts_HEX, hexs_sub ⟨a1, a2⟩] at y1
    rw [byts_HEX, hexs_sub ⟨b1, b2⟩] at y2
    have k1 : acc.size + (sx HEX (gt d i / 16) (gt d i / 16 + 1)).size ≤ LIM := by simp [LIM]; omega
    have sa : (acc ++ sx HEX (gt d i / 16) (gt d i / 16 + 1)).size = acc.size + 1 := by rw [ByteArray.size_append]; omega
    have k2 : (acc ++ sx HEX (gt d i / 16) (gt d i / 16 + 1)).size + (sx HEX (gt d i % 16) (gt d i % 16 + 1)).size ≤ LIM := by rw [sa]; simp [LIM]; omega
    obtain ⟨s, h1, h2⟩ := ih (i + 1) k ((acc ++ sx HEX (gt d i / 16) (gt d i / 16 + 1)) ++ sx HEX (gt d i % 16) (gt d i % 16 + 1)) (by omega) (by omega) (by omega) (by rw [ByteArray.size_append, sa]; omega)
    refine ⟨s, ?_, ?_⟩
    · simp only [ref02_Text.l0, hlt, if_true, gi, and_self, w0, q1, q2, w1, w2, w3, e1]
      rw [show (⟨#[48, 49, 50, 51, 52, 53, 54, 55, 56, 57, 97, 98, 99, 100, 101, 102]⟩ : ByteArray) = HEX from rfl, if_pos g1, if_pos k1, if_pos g2, if_pos k2]
      exact h1
    · rw [h2, byts_append, byts_append, y1, y2, drop_gt d gi.1 (by omega)]
      simp [textL]
theorem text_both {d : List Int} (hd : d.length = 32) (hB : isB d) : sha_Text d = some (strOfNums (textL d)) ∧ ref02_Text d = some (strOfNums (textL d)) := by
  have h1 := text_step hd hB 32 0 FU [] (by omega) (by omega) (by simp [FU]) (by simp)
  obtain ⟨s, h2, h3⟩ := ref_text_step hd hB 32 0 FU (⟨#[]⟩ : ByteArray) (by omega) (by omega) (by simp [FU]) (by simp [ByteArray.size])
  constructor
  · unfold sha_Text; rw [h1]; simp
  · unfold ref02_Text; rw [h2]
    simp only [Option.bind_some]
    congr 1
    apply byts_inj
    rw [h3, byts_strOfNums (textL_isB hB)]
    simp [byts_nil]
theorem bytes_step {d : List Int} (hd : d.length = 32) : ∀ (n : Nat) (i : Int) (k : Nat) (acc : List Int), i = 32 - n → n ≤ 32 → n < k → acc.length ≤ 32 - n → ref02_Bytes.l0 d k acc i = some (acc ++ d.drop i.toNat) := by
  intro n
  induction n with
  | zero =>
    intro i k acc hi _ hk _
    obtain ⟨k, rfl⟩ : ∃ m, k = m + 1 := ⟨k - 1, by omega⟩
    have : decide (i < 32) = false := decide_eq_false (by omega)
    have e : d.drop i.toNat = [] := List.drop_of_length_le (by omega)
    simp [ref02_Bytes.l0, this, e]
  | succ n ih =>
    intro i k acc hi hn hk hl
    obtain ⟨k, rfl⟩ : ∃ m, k = m + 1 := ⟨k - 1, by omega⟩
    have hlt : decide (i < 32) = true := decide_eq_true (by omega)
    have e1 : wi64 (i + 1) = i + 1 := wi64_id (by omega)
    have gi : 0 ≤ i ∧ i < 32 := ⟨by omega, by omega⟩
    have gl : acc.length + ([gt d i] : List Int).length ≤ LIM := by simp [LIM]; omega
    rw [drop_gt d gi.1 (by omega)]
    simp only [ref02_Bytes.l0, hlt, if_true, gi, and_self, e1, gl]
    rw [ih (i + 1) k _ (by omega) (by omega) (by omega) (by simp; omega)]
    simp
theorem ref_bytes {d : List Int} (hd : d.length = 32) : ref02_Bytes d = some (strOfNums d) := by
  unfold ref02_Bytes
  rw [bytes_step hd 32 0 FU [] (by omega) (by omega) (by simp [FU]) (by simp)]
  simp
end Go.Cen

/- EVENT: bytes; the reference. -/
set_option linter.unusedVariables false
set_option linter.unusedSimpArgs false
namespace Go.Cen
def putE (e : ApiEvent) : List Int := numL (clampN e.Kind) ++ (partsE e).flatMap bytD
def putR (e : ApiEvent) : ByteArray × Bool := if validE e then (strOfNums (putE e), true) else (⟨#[]⟩, false)
theorem event_Put_eq {e : ApiEvent} (h : okE e) : event_Put e = some (putR e) := by
  have hp := parts_ok h
  have hl := parts_len e
  have hc := clampN_len e.Kind
  unfold event_Put putR
  rw [event_Valid_eq h]
  cases validE e with
  | false => rfl
  | true =>
    simp only [Option.bind_some, Bool.not_true, Bool.false_eq_true, if_false, wire_Num_eq, parts_eq, if_true]
    rw [put_l0 _ hp (by omega) _ (by omega)]
    rfl
theorem ref03_Valid_eq (s : ByteArray) (h : s.size ≤ 100000) : ref03_Valid s = some (nmOk s) := by
  have := ref03_Valid_str (l := byts s) (byts_isB s) (by rw [byts_len]; exact h)
  rwa [strOfNums_byts] at this
def tells5 (k : Int) : List Bool := if k = 0 ∨ k = 4 ∨ k = 5 then [true, true, false, false, false] else if k = 1 then [true, false, false, true, false] else if k = 2 then [true, false, true, true, true]
  else if k = 3 then [true, false, true, false, false] else if k = 6 then [true, false, false, false, false] else if k = 7 then [false, false, true, false, false] else [false, false, false, false, false]
theorem tells_eq (k : Int) : ref05_tells k = some (tells5 k) := by
  unfold ref05_tells tells5
  rcases kinds k with k | k | k | k | k | k | k | k | ⟨k0, k4, k5, k1, k2, k3, k6, k7⟩
  all_goals first
    | (subst k; rfl)
    | simp [k0, k1, k2, k3, k4, k5, k6, k7]
theorem gtB (a b c d e : Bool) : gt [a, b, c, d, e] 0 = a ∧ gt [a, b, c, d, e] 1 = b ∧ gt [a, b, c, d, e] 2 = c ∧ gt [a, b, c, d, e] 3 = d ∧ gt [a, b, c, d, e] 4 = e := ⟨rfl, rfl, rfl, rfl, rfl⟩
set_option maxHeartbeats 2000000 in
theorem ref05_Valid_eq {e : ApiEvent} (h : okE e) : ref05_Valid e = some (validE e) := by
  unfold ref05_Valid
  rw [tells_eq, ref03_Valid_eq _ h.1]
  rcases kinds e.Kind with k | k | k | k | k | k | k | k | ⟨k0, k4, k5, k1, k2, k3, k6, k7⟩
  case inr.inr.inr.inr.inr.inr.inr.inr =>
    have : (if decide (e.Kind < 0) = true then some true else some (decide (e.Kind > 7))) = some true := by
      by_cases q : e.Kind < 0
      · simp [q]
      · have : e.Kind > 7 := by omega
        simp [this]
    rw [this]
    simp [validE, k0, k1, k2, k3, k4, k5, k6, k7]
  all_goals
    have hz : eqA e.Sum ([0, 0, 0, 0, 0, 0, 0, 0, 0, 0, 0, 0, 0, 0, 0, 0, 0, 0, 0, 0, 0, 0, 0, 0, 0, 0, 0, 0, 0, 0, 0, 0] : List Int) = noD e.Sum := rfl
    simp [k, tells5, validE, (gtB _ _ _ _ _).1, (gtB _ _ _ _ _).2.1, (gtB _ _ _ _ _).2.2.1, (gtB _ _ _ _ _).2.2.2.1, (gtB _ _ _ _ _).2.2.2.2, hz]
    have r1 : ∀ a b x : Int, (if a ≤ x then if x ≤ b then some true else some false else some false) = some (decide (a ≤ x) && decide (x ≤ b)) := fun a b x => by
      by_cases q : a ≤ x <;> by_cases q' : x ≤ b <;> simp [q, q']
    have r2 : ∀ b : Bool, (if b = true then some true else some false) = some b := fun b => by cases b <;> rfl
    have e1 : seq e.Name (⟨#[]⟩ : ByteArray) = noS e.Name := rfl
    simp only [r1, r2, Option.bind_some, e1]
    have e2 : (decide (1 ≤ e.ID) && decide (e.ID ≤ 1099511627776)) = idOk e.ID := rfl
    have e3 : (decide (0 ≤ e.Time) && decide (e.Time ≤ 1099511627776)) = timeOk e.Time := rfl
    have e4 : (decide (0 ≤ e.Len) && decide (e.Len ≤ 600)) = lenOk 0 e.Len := rfl
    have e5 : (decide (1 ≤ e.Len) && decide (e.Len ≤ 600)) = lenOk 1 e.Len := rfl
    (try simp only [e2, e3, e4, e5])
    clear e2 e3 e4 e5 r1 r2 e1
    generalize lenOk 1 e.Len = b1
    generalize lenOk 0 e.Len = b0
    generalize timeOk e.Time = bt
    generalize idOk e.ID = bi
    generalize noS e.Name = bs
    generalize nmOk e.Name = bn
    by_cases hT : e.Time = 0 <;> by_cases hL : e.Len = 0 <;> by_cases hI : e.ID = 0
    all_goals
      cases bs <;> cases bi <;> simp [hT, hL, hI]
    all_goals
      cases bn <;> cases bt <;> cases b0 <;> cases b1 <;> (try simp)
theorem ref04_Text_eq (s : ByteArray) (h : s.size ≤ 100000) : ref04_Text s = some (strOfNums (numL (clampN (s.size : Int)) ++ byts s)) := by
  have hL := LIM_val
  have := clampN_len (s.size : Int)
  unfold ref04_Text
  rw [ref04_Num_eq]
  simp only [Option.bind_some, strOfNums_size]
  rw [if_pos (by omega)]
  congr 1
  rw [← strOfNums_append, strOfNums_byts]
theorem ref04_Sum_eq {d : List Int} (h : d.length = 32) : ref04_Sum d = some (strOfNums d) := by
  unfold ref04_Sum
  rw [ref_bytes h]; rfl
theorem ref05_Put_eq {e : ApiEvent} (h : okE e) : ref05_Put e = some (putR e) := by
  have hL := LIM_val
  have c0 := clampN_len e.Kind
  have c1 := clampN_len e.ID
  have c2 := clampN_len e.Time
  have c3 := clampN_len e.Len
  have c4 := clampN_len (e.Name.size : Int)
  have hn := h.1
  have h32 := h.2.1
  have hb := byts_len e.Name
  unfold ref05_Put putR
  rw [ref05_Valid_eq h]
  cases hv : validE e with
  | false => rfl
  | true =>
    simp only [Option.bind_some, Bool.not_true, Bool.false_eq_true, if_false, if_true, tells_eq, ref04_Num_eq, ref04_Text_eq _ h.1, ref04_Sum_eq h.2.1, putE]
    rcases kinds e.Kind with k | k | k | k | k | k | k | k | ⟨k0, k4, k5, k1, k2, k3, k6, k7⟩
    case inr.inr.inr.inr.inr.inr.inr.inr => simp [validE, k0, k1, k2, k3, k4, k5, k6, k7] at hv
    all_goals
      have hq : ∀ (xs ys : List Int), xs.length ≤ 1000 → ys.length ≤ 100100 → (strOfNums xs).size + (strOfNums ys).size ≤ LIM := fun xs ys h1 h2 => by rw [strOfNums_size, strOfNums_size]; omega
      rw [k] at c0
      simp only [k, tells5, partsE, (gtB _ _ _ _ _).1, (gtB _ _ _ _ _).2.1, (gtB _ _ _ _ _).2.2.1, (gtB _ _ _ _ _).2.2.2.1, (gtB _ _ _ _ _).2.2.2.2, if_true, Option.bind_some, Int.reduceEq, or_true, true_or, or_false, false_or, or_self, if_false, Bool.false_eq_true, reduceCtorEq]
      simp only [strOfNums_append, strOfNums_size, List.length_append, hb, h32]
      repeat (first | rw [if_pos (by omega)] | simp only [Option.bind_some, strOfNums_append, strOfNums_size, List.length_append, hb, h32])
      simp [bytD]
end Go.Cen

/- EVENT: bytes tell the event. -/
set_option linter.unusedVariables false
set_option linter.unusedSimpArgs false
namespace Go.Cen
theorem eq_event_iff (a b : ApiEvent) : eq_ApiEvent a b = true ↔ a = b := by
  cases a; cases b
  simp [eq_ApiEvent, seq_iff, eqA_iff]
/-- what an event that may be is -/
theorem valid_form {e : ApiEvent} (h : okE e) (hv : validE e = true) : partsE e ≠ [] ∧ ofE e = e ∧ namedL (partsE e) true = true ∧ (e.Kind = 7 ∨ idOk e.ID = true) ∧ timeOk e.Time = true ∧ lenOk (leastE e) e.Len = true := by
  have h1 := event_Valid_raw h
  rw [event_Valid_eq h, hv] at h1
  have h2 := (someS h1).symm
  by_cases hk : partsE e = []
  · rw [if_pos hk] at h2; cases h2
  · rw [if_neg hk] at h2
    simp only [Bool.and_eq_true, Bool.or_eq_true, beq_iff_eq] at h2
    obtain ⟨a, b, c, d, f⟩ := h2
    exact ⟨hk, (eq_event_iff _ _).1 a, b, c, d, f⟩
theorem valid_kind {e : ApiEvent} (hv : validE e = true) : 0 ≤ e.Kind ∧ e.Kind ≤ 7 := by
  rcases kinds e.Kind with k | k | k | k | k | k | k | k | ⟨k0, k4, k5, k1, k2, k3, k6, k7⟩
  case inr.inr.inr.inr.inr.inr.inr.inr => simp [validE, k0, k1, k2, k3, k4, k5, k6, k7] at hv
  all_goals omega
theorem valid_nums {e : ApiEvent} (h : okE e) (hv : validE e = true) : (0 ≤ e.ID ∧ e.ID ≤ 1099511627776) ∧ (0 ≤ e.Time ∧ e.Time ≤ 1099511627776) ∧ (0 ≤ e.Len ∧ e.Len ≤ 600) := by
  obtain ⟨h1, h2, h3, h4, h5, h6⟩ := valid_form h hv
  simp only [timeOk, lenOk, Bool.and_eq_true, decide_eq_true_eq] at h5 h6
  have hl : leastE e = 0 ∨ leastE e = 1 := by unfold leastE; split <;> simp
  refine ⟨?_, h5, by omega⟩
  rcases h4 with h4 | h4
  · have : (ofE e).ID = 0 := by simp [ofE, h4]
    rw [h2] at this; omega
  · simp only [idOk, Bool.and_eq_true, decide_eq_true_eq] at h4; omega
end Go.Cen

/- ROOT: what is valid, and its bytes. -/
set_option linter.unusedVariables false
set_option linter.unusedSimpArgs false
namespace Go.Cen
/-- one row, as four numbers -/
structure Q where
  l : Int
  o : Int
  b : Int
  t : Int
  deriving DecidableEq
end Go.Cen

/- ROOT: its bytes, and the parts. -/
set_option linter.unusedVariables false
set_option linter.unusedSimpArgs false
namespace Go.Cen
/-- a number's bytes, clamped -/
def nm (a : Int) : List Int := numL (clampN a)
end Go.Cen

/- EVENT: what was put is got again. -/
set_option linter.unusedVariables false
set_option linter.unusedSimpArgs false
set_option maxRecDepth 100000
namespace Go.Cen
theorem gsum {d : List Int} (h : d.length = 32) (hd : isB d) {r : List Int} (hr : isB r) : wire_GetSum (strOfNums (d ++ r)) = some (d, strOfNums r, true) := by
  unfold wire_GetSum
  have hsz : ((strOfNums (d ++ r)).size : Int) = ((32 + r.length : Nat) : Int) := by rw [strOfNums_size, List.length_append, h]
  have c : ¬ (((32 + r.length : Nat) : Int) < 32) := by omega
  have g1 : (0 : Int) ≤ 0 ∧ (0 : Int) ≤ 32 ∧ (32 : Int) ≤ ((32 + r.length : Nat) : Int) := by omega
  have g2 : (0 : Int) ≤ 32 ∧ (32 : Int) ≤ ((32 + r.length : Nat) : Int) ∧ ((32 + r.length : Nat) : Int) ≤ ((32 + r.length : Nat) : Int) := by omega
  have e1 : sx (strOfNums (d ++ r)) 0 32 = strOfNums d := by
    rw [sx_str]
    have : (32 : Int).toNat = d.length := by rw [h]; rfl
    rw [this, List.take_left]; simp
  have e2 : sx (strOfNums (d ++ r)) 32 ((32 + r.length : Nat) : Int) = strOfNums r := by
    rw [sx_str]
    have h1 : ((32 + r.length : Nat) : Int).toNat = (d ++ r).length := by rw [List.length_append, h]; omega
    have h2 : (32 : Int).toNat = d.length := by rw [h]; rfl
    rw [h1, List.take_length, h2, List.drop_left]
  have hlim : (strOfNums d).size ≤ LIM := by rw [strOfNums_size, h]; decide
  rw [hsz]
  simp only [c, decide_false, Bool.false_eq_true, if_false, g1, g2, and_self, if_true, e1, e2, hlim, byts_strOfNums hd, h]
  rfl
end Go.Cen

/- EVENT: how long; what is not told. -/
set_option linter.unusedVariables false
set_option linter.unusedSimpArgs false
set_option maxRecDepth 100000
namespace Go.Cen
theorem len_cnt : ∀ l, isB l → l.length ≤ 4 * cnt l := by
  refine seg_ind (by simp [cnt_nil]) fun l hl hB ih => ?_
  rw [cnt_cons hl]
  have := dec_w l hl
  simp only [List.length_drop] at ih
  omega
theorem nm_small {s : ByteArray} (h : nmOk s = true) : s.size ≤ 96 := by
  unfold nmOk validN at h
  simp only [Bool.and_eq_true, decide_eq_true_eq] at h
  have := len_cnt (byts s) (byts_isB s)
  rw [byts_len] at this
  omega
theorem num6 {a : Int} (h0 : 0 ≤ a) (h : a ≤ 1099511627776) : (numL (clampN a)).length ≤ 6 := numL_len 5 _ (by have := clampN_id h0 (show a ≤ 1125899906842624 by omega); omega)
theorem num1 {a : Int} (h0 : 0 ≤ a) (h : a ≤ 127) : numL (clampN a) = [a] := by
  have := clampN_id h0 (show a ≤ 1125899906842624 by omega)
  rw [numL_lt (by omega), this]
theorem num2 {a : Int} (h0 : 0 ≤ a) (h : a ≤ 600) : (numL (clampN a)).length ≤ 2 := numL_len 1 _ (by have := clampN_id h0 (show a ≤ 1125899906842624 by omega); omega)
theorem valid_name {e : ApiEvent} (hv : validE e = true) : e.Name.size ≤ 96 := by
  have he : (⟨#[]⟩ : ByteArray).size = 0 := rfl
  rcases kinds e.Kind with k | k | k | k | k | k | k | k | ⟨k0, k4, k5, k1, k2, k3, k6, k7⟩
  case inr.inr.inr.inr.inr.inr.inr.inr => simp [validE, k0, k1, k2, k3, k4, k5, k6, k7] at hv
  all_goals simp [validE, k] at hv
  all_goals first
    | exact nm_small hv.2.1
    | (have := (noS_eq _).1 hv.2.1; rw [this, he]; omega)
theorem put_shape {e : ApiEvent} (h : okE e) (hv : validE e = true) : ∃ t, putE e = e.Kind :: t ∧ 1 ≤ t.length ∧ t.length ≤ 109 := by
  have hk := valid_kind hv
  obtain ⟨⟨i1, i2⟩, ⟨t1, t2⟩, ⟨l1, l2⟩⟩ := valid_nums h hv
  have hn := valid_name hv
  refine ⟨(partsE e).flatMap bytD, by unfold putE; rw [num1 (by omega) (by omega)]; rfl, ?_⟩
  have a1 := num6 i1 i2; have a2 := num6 t1 t2; have a3 := num2 l1 l2
  have p1 := numL_pos (clampN e.ID); have p2 := numL_pos (clampN e.Time); have p3 := numL_pos (clampN e.Len)
  have a4 : numL (clampN (e.Name.size : Int)) = [(e.Name.size : Int)] := num1 (by omega) (by omega)
  have a5 := h.2.1
  have hb := byts_len e.Name
  rcases kinds e.Kind with k | k | k | k | k | k | k | k | ⟨k0, k4, k5, k1, k2, k3, k6, k7⟩
  case inr.inr.inr.inr.inr.inr.inr.inr => simp [validE, k0, k1, k2, k3, k4, k5, k6, k7] at hv
  · rw [show partsE e = [.i111 e.ID, .i108 e.Name] from by simp [partsE, k]]
    simp [bytD, a4, hb]; omega
  · rw [show partsE e = [.i111 e.ID, .i108 e.Name] from by simp [partsE, k]]
    simp [bytD, a4, hb]; omega
  · rw [show partsE e = [.i111 e.ID, .i108 e.Name] from by simp [partsE, k]]
    simp [bytD, a4, hb]; omega
  · rw [show partsE e = [.i111 e.ID, .i111 e.Len] from by simp [partsE, k]]
    simp [bytD]; omega
  · rw [show partsE e = [.i111 e.ID, .i111 e.Time, .i111 e.Len, .i112 e.Sum] from by simp [partsE, k]]
    simp [bytD, a5]; omega
  · rw [show partsE e = [.i111 e.ID, .i111 e.Time] from by simp [partsE, k]]
    simp [bytD]; omega
  · rw [show partsE e = [.i111 e.ID] from by simp [partsE, k]]
    simp [bytD]; omega
  · rw [show partsE e = [.i111 e.Time] from by simp [partsE, k]]
    simp [bytD]; omega
end Go.Cen

/- EVENT: what is got from any bytes. -/
set_option linter.unusedVariables false
set_option linter.unusedSimpArgs false
set_option maxRecDepth 100000
namespace Go.Cen
theorem sum_cases {xs : List Int} (hx : isB xs) : (∃ a b, wire_GetSum (strOfNums xs) = some (a, b, false)) ∨ ∃ (d r : List Int), d.length = 32 ∧ isB d ∧ isB r ∧ xs = d ++ r ∧ wire_GetSum (strOfNums xs) = some (d, strOfNums r, true) := by
  by_cases c : xs.length < 32
  · left; unfold wire_GetSum
    have : ((strOfNums xs).size : Int) < 32 := by rw [strOfNums_size]; omega
    simp only [this, decide_true, if_true]
    exact ⟨_, _, rfl⟩
  · right
    have e : xs = xs.take 32 ++ xs.drop 32 := (List.take_append_drop 32 xs).symm
    have hl : (xs.take 32).length = 32 := by rw [List.length_take]; omega
    refine ⟨xs.take 32, xs.drop 32, hl, isB_take hx 32, isB_drop hx 32, e, ?_⟩
    have := gsum hl (isB_take hx 32) (isB_drop hx 32)
    rw [← e] at this
    exact this
end Go.Cen

/- EVENT: what the document reads of any bytes. -/
set_option linter.unusedVariables false
set_option linter.unusedSimpArgs false
set_option maxRecDepth 100000
namespace Go.Cen
theorem rsum_l0 {xs : List Int} (hx : isB xs) (h32 : 32 ≤ xs.length) : ref04_GetSum.l0 (strOfNums xs) FU 0 (List.replicate 32 (0 : Int)) = some (xs.take 32) := by
  have := loopNI 32 (by omega) (fun k i (s : List Int) => ref04_GetSum.l0 (strOfNums xs) k i s) (fun i s => some (s.take i ++ (xs.drop i).take (32 - i))) (fun i s => s.length = 32)
    (fun k s hs => by
      have hd : decide (((32 : Nat) : Int) < 32) = false := by decide
      simp only [ref04_GetSum.l0, hd, Bool.false_eq_true, if_false]
      rw [List.take_of_length_le (by omega)]; simp)
    (fun k i hi hw s hs ih => by
      have hd : decide ((i : Int) < 32) = true := by simp; omega
      have hg : 0 ≤ (i : Int) ∧ (i : Int) < ((strOfNums xs).size : Int) := by rw [strOfNums_size]; omega
      have hg2 : 0 ≤ (i : Int) ∧ (i : Int) < 32 := by omega
      have hb : bt (strOfNums xs) (i : Int) = xs[i] := by rw [bt_str hx, gt_nat xs i (by omega)]
      have hst : (st s (i : Int) (xs[i])).length = 32 := by simp [st, hs]
      simp only [ref04_GetSum.l0, hd, if_true, hg, hg2, and_self, hb, hw]
      rw [ih _ hst]
      congr 1
      have hcons : xs.drop i = xs[i] :: xs.drop (i + 1) := List.drop_eq_getElem_cons (by omega)
      have e1 : (32 - i) = (32 - (i + 1)) + 1 := by omega
      rw [hcons, e1, List.take_succ_cons]
      have e2 : (st s (i : Int) (xs[i])).take (i + 1) = s.take i ++ [xs[i]] := by
        unfold st
        have : (i : Int).toNat = i := by omega
        rw [this, List.take_add_one, List.take_set_of_le (Nat.le_refl _), List.getElem?_set_self (by omega)]
        rfl
      rw [e2, List.append_assoc]; rfl) (List.replicate 32 0) (by simp)
  rw [this]; simp
theorem rsum_cases {xs : List Int} (hx : isB xs) : (ref04_GetSum (strOfNums xs) = some (z32, ⟨#[]⟩, false) ∧ wire_GetSum (strOfNums xs) = some (z32, ⟨#[]⟩, false)) ∨ ∃ (d r : List Int), d.length = 32 ∧ isB d ∧ isB r ∧ ref04_GetSum (strOfNums xs) = some (d, strOfNums r, true) ∧ wire_GetSum (strOfNums xs) = some (d, strOfNums r, true) := by
  by_cases c : xs.length < 32
  · left
    have : ((strOfNums xs).size : Int) < 32 := by rw [strOfNums_size]; omega
    constructor
    · unfold ref04_GetSum; simp only [this, decide_true, if_true]; rfl
    · unfold wire_GetSum; simp only [this, decide_true, if_true]; rfl
  · right
    have e : xs = xs.take 32 ++ xs.drop 32 := (List.take_append_drop 32 xs).symm
    have hl : (xs.take 32).length = 32 := by rw [List.length_take]; omega
    refine ⟨xs.take 32, xs.drop 32, hl, isB_take hx 32, isB_drop hx 32, ?_, ?_⟩
    · unfold ref04_GetSum
      have c2 : ¬ ((strOfNums xs).size : Int) < 32 := by rw [strOfNums_size]; omega
      have g : (0 : Int) ≤ 32 ∧ (32 : Int) ≤ ((strOfNums xs).size : Int) ∧ ((strOfNums xs).size : Int) ≤ ((strOfNums xs).size : Int) := by rw [strOfNums_size]; omega
      have es : sx (strOfNums xs) 32 ((strOfNums xs).size : Int) = strOfNums (xs.drop 32) := by
        rw [sx_str, strOfNums_size]
        have h1 : (xs.length : Int).toNat = xs.length := by omega
        have h2 : (32 : Int).toNat = 32 := rfl
        rw [h1, List.take_length, h2]
      simp only [c2, decide_false, Bool.false_eq_true, if_false, rsum_l0 hx (by omega), Option.bind_some, g, and_self, if_true, es]
    · have := gsum hl (isB_take hx 32) (isB_drop hx 32)
      rw [← e] at this
      exact this
end Go.Cen

/- EVENT: the event that any bytes begin with. -/
set_option linter.unusedVariables false
set_option linter.unusedSimpArgs false
set_option maxRecDepth 100000
namespace Go.Cen
theorem rsum_same {xs : List Int} (hx : isB xs) : ref04_GetSum (strOfNums xs) = wire_GetSum (strOfNums xs) := by
  rcases rsum_cases hx with ⟨a, b⟩ | ⟨s, r, _, _, _, a, b⟩ <;> rw [a, b]
theorem rs {xs : List Int} (hx : isB xs) : ref04_GetSum (strOfNums xs) = some (z32, ⟨#[]⟩, false) ∨ ∃ (d r : List Int), d.length = 32 ∧ isB d ∧ isB r ∧ xs = d ++ r ∧ ref04_GetSum (strOfNums xs) = some (d, strOfNums r, true) := by
  rcases rsum_cases hx with ⟨a, b⟩ | ⟨s, r, _, _, _, a, b⟩
  · exact .inl a
  · rcases sum_cases hx with ⟨x, y, w⟩ | ⟨s', r', h1, h2, h3, h4, w⟩
    · rw [b] at w; simp at w
    · exact .inr ⟨s', r', h1, h2, h3, h4, by rw [rsum_same hx]; exact w⟩
end Go.Cen
