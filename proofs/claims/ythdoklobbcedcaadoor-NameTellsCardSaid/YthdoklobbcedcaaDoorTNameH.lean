/- NAME: the reference's words: order, digits, what is shown. -/
import Derived.Test.YthdoklobbcedcaaDoorTNameF
set_option linter.unusedVariables false
set_option linter.unusedSimpArgs false
namespace Go.Cen
def lessV : List Int → List Int → Bool ⊕ Unit
  | [], _ => .inr ()
  | _ :: _, [] => .inr ()
  | a :: x, b :: y => if a = b then lessV x y else .inl (decide (a < b))
theorem lessV_eq : ∀ x y, (match lessV x y with | .inl v => v | .inr _ => decide ((x.length : Int) < (y.length : Int))) = lessL x y
  | [], [] => rfl
  | [], _ :: _ => by simp [lessV, lessL] <;> omega
  | _ :: _, [] => by simp [lessV, lessL] <;> omega
  | a :: x, b :: y => by
    have ih := lessV_eq x y
    simp only [lessV, lessL]
    by_cases e : a = b
    · simp only [if_pos e]
      rw [← ih]
      cases lessV x y with
      | inl v => rfl
      | inr u =>
        simp only [List.length_cons]
        congr 1
        apply propext
        omega
    · simp only [if_neg e]
theorem lessV_nil : ∀ x, lessV x [] = .inr ()
  | [] => rfl
  | _ :: _ => rfl
theorem rLess_l0 (x y : List Int) (hx : x.length ≤ 1000000) : ref03_Less.l0 x y FU 0 = some (lessV x y) := by
  have := loopN (min x.length y.length) (by omega) (fun k i (_ : Unit) => ref03_Less.l0 x y k i) (fun i _ => some (lessV (x.drop i) (y.drop i))) (fun k s => by
      by_cases h : x.length ≤ y.length
      · have hd : decide (((min x.length y.length : Nat) : Int) < (x.length : Int)) = false := by simp; omega
        have hz : x.drop (min x.length y.length) = [] := List.drop_eq_nil_iff.2 (by omega)
        simp only [ref03_Less.l0, hd, hz, lessV]
        rfl
      · have hd : decide (((min x.length y.length : Nat) : Int) < (y.length : Int)) = false := by simp; omega
        have hz : y.drop (min x.length y.length) = [] := List.drop_eq_nil_iff.2 (by omega)
        simp only [ref03_Less.l0, andS, hd, hz, lessV_nil, Bool.and_false, Option.bind_some, Bool.false_eq_true, if_false])
    (fun k i hi hw s ih => by
      have hix : i < x.length := by omega
      have hiy : i < y.length := by omega
      have hd : decide ((i : Int) < (x.length : Int)) = true := by simp; omega
      have hd2 : decide ((i : Int) < (y.length : Int)) = true := by simp; omega
      have hdr : x.drop i = x[i] :: x.drop (i + 1) := List.drop_eq_getElem_cons hix
      have hdy : y.drop i = y[i] :: y.drop (i + 1) := List.drop_eq_getElem_cons hiy
      have hg : gt x (i : Int) = x[i] := gt_nat x i hix
      have hgy : gt y (i : Int) = y[i] := gt_nat y i hiy
      have ih' := ih ()
      simp only [ref03_Less.l0, hd, hd2, if_true, Option.bind_some, hg, hgy, hw]
      rw [if_pos (by omega), if_pos (by omega), hdr, hdy]
      simp only [lessV]
      by_cases e : x[i] = y[i]
      · have : (x[i] != y[i]) = false := by simp [e]
        rw [if_pos e]
        simp only [this, Bool.false_eq_true, if_false]
        exact ih'
      · have : (x[i] != y[i]) = true := by simp [e]
        rw [if_neg e]
        simp only [this, if_true]
        rw [if_pos (by omega), if_pos (by omega)]) ()
  simpa using this
theorem ref03_Less_str {a b : List Int} (ha : isB a) (hb : isB b) (hna : a.length ≤ 100000) (hnb : b.length ≤ 100000) : ref03_Less (strOfNums a) (strOfNums b) = some (lessL (runesL a) (runesL b)) := by
  have h1 := cnt_le a ha
  unfold ref03_Less
  rw [ref03_Runes_str ha (by omega), ref03_Runes_str hb (by omega)]
  simp only [Option.bind_some]
  have : (runesL a).length = cnt a := rfl
  rw [rLess_l0 _ _ (by omega), ← lessV_eq]
  simp only [Option.bind_some]
  cases lessV (runesL a) (runesL b) <;> rfl
theorem digit_nat : ∀ n < 256, ref03_digit ((n : Nat) : Int) = some (hexv ((n : Nat) : Int)) := by decide +kernel
theorem digit_eq {c : Int} (h : 0 ≤ c ∧ c < 256) : ref03_digit c = some (hexv c) := by
  have := digit_nat c.toNat (by omega)
  rwa [Int.toNat_of_nonneg h.1] at this
/-! ### the reference's showing -/
theorem digs_sub : ∀ k < 16, sx digs ((k : Nat) : Int) (((k + 1 : Nat)) : Int) = strOfNums [hexd k] := by decide +kernel
set_option maxRecDepth 10000 in
theorem ref03_Quote_str {l : List Int} (hB : isB l) (hn : l.length ≤ 1000000) : ref03_Quote (strOfNums l) = some (strOfNums (quoteL l)) := by
  have hL := LIM_val
  have hbl := body_len l hB
  have e110 : (⟨#[110]⟩ : ByteArray) = strOfNums [110] := rfl
  have e120 : (⟨#[120]⟩ : ByteArray) = strOfNums [120] := rfl
  unfold ref03_Quote
  have := loopR l hB (by omega) (fun k i (s : List Int) => ref03_Quote.l0 (strOfNums l) k (strOfNums s) (i : Int)) (fun r s => some (strOfNums (s ++ body r))) (fun r s => s.length + 4 * r.length ≤ 4000100)
    (fun k s hs => by
      have hd : decide (((l.length : Nat) : Int) < (l.length : Int)) = false := by simp
      simp only [ref03_Quote.l0, strOfNums_size, hd, body_nil, List.append_nil]
      rfl)
    (fun k i s hi hne hB' hr hw hbr hbt hI ih => by
      have hlt := drop_lt hne
      have b0 := bn_lt hB' 0
      have hd : decide ((i : Int) < (l.length : Int)) = true := by simp; omega
      have hg : (0 : Int) ≤ (i : Int) ∧ (i : Int) < (l.length : Int) := ⟨by omega, by omega⟩
      have hs : sx (strOfNums l) (i : Int) (l.length : Int) = strOfNums (l.drop i) := drop_str l i (by omega)
      have hw4 := dec_w _ hne
      have hlen : (l.drop i).length = l.length - i := List.length_drop
      have hsub : ∀ w : Nat, w ≤ l.length - i → sx (strOfNums l) (i : Int) ((i + w : Nat) : Int) = strOfNums ((l.drop i).take w) := by
        intro w hw
        rw [sx_str, Int.toNat_natCast, Int.toNat_natCast, List.drop_take, Nat.add_sub_cancel_left]
      obtain ⟨x, hx⟩ : ∃ x, x = l.drop i := ⟨_, rfl⟩
      rw [← hx] at hne hB' hr hw hbr hbt hI ih hlt b0 hs hw4 hlen hsub ⊢
      have hbody := body_cons hne
      have hx1 : 1 ≤ x.length := List.length_pos_iff.2 hne
      simp only [ref03_Quote.l0, strOfNums_size, hd, if_true, hs]
      rw [if_pos (by omega), ref03_Rune_dec hB' hne]
      simp only [Option.bind_some, hg, and_self, if_true, hbt]
      have w1 : wi64 (bn x 0 : Int) = (bn x 0 : Int) := wi64_id (by omega)
      have wi1 : wi64 ((i : Int) + 1) = ((i + 1 : Nat) : Int) := by rw [wi64_id (by omega)]; omega
      -- what is shown, and the width
      have hfin : ∀ (T : List Int) (w : Nat), shown x = T → w = (dec x).2 → ref03_Quote.l0 (strOfNums l) k (strOfNums (s ++ T)) (wi64 ((i : Int) + (w : Int))) = some (strOfNums (s ++ body x)) := by
        intro T w hT hw'
        have hT4 := shown_len x hne
        have hwi : wi64 ((i : Int) + (w : Int)) = ((i + (dec x).2 : Nat) : Int) := by rw [hw', wi64_id (by omega)]; omega
        rw [hwi, ih (s ++ T) (by rw [List.length_append, ← hT]; rw [List.length_drop]; omega), hbody, hT, List.append_assoc]
      by_cases hb : bad x
      · rw [if_pos hb]
        have hd1 := bad_w hb
        have hsh : shown x = [92, 120, hexd (bn x 0 / 16), hexd (bn x 0 % 16)] := by
          unfold shown
          rw [hd1]; simp only
          rw [if_neg (by omega), if_neg (by omega), if_pos (.inr (.inr hb))]
        have q1 : (((-1 : Int) == 34) || ((-1 : Int) == 92)) = false := rfl
        have q2 : ((-1 : Int) == 10) = false := rfl
        have q3 : decide ((-1 : Int) ≥ 32) = false := rfl
        have t1 : (bn x 0 : Int).tdiv 16 = ((bn x 0 / 16 : Nat) : Int) := by rw [Int.tdiv_eq_ediv_of_nonneg (by omega)]; omega
        have t2 : (bn x 0 : Int).tmod 16 = ((bn x 0 % 16 : Nat) : Int) := by rw [Int.tmod_eq_emod_of_nonneg (by omega)]; omega
        have t3 : wi64 ((bn x 0 / 16 : Nat) : Int) = ((bn x 0 / 16 : Nat) : Int) := wi64_id (by omega)
        have t4 : wi64 (((bn x 0 / 16 : Nat) : Int) + 1) = ((bn x 0 / 16 + 1 : Nat) : Int) := by rw [wi64_id (by omega)]; omega
        have t5 : wi64 (((bn x 0 % 16 : Nat) : Int) + 1) = ((bn x 0 % 16 + 1 : Nat) : Int) := by rw [wi64_id (by omega)]; omega
        have t6 := digs_sub (bn x 0 / 16) (by omega)
        have t7 := digs_sub (bn x 0 % 16) (by omega)
        unfold digs at t6 t7
        simp only [orS, q1, q2, q3, Bool.false_eq_true, if_false, Option.bind_some, w1, t1, t2, t3, t4, t5, t6, t7, e110, e120, strOfNums_append, strOfNums_size, digits_size]
        rw [if_pos (by simp; omega), if_pos (by simp; omega), if_pos (by omega), if_pos (by simp; omega), if_pos (by omega), if_pos (by simp; omega)]
        simp only [Option.bind_some]
        have := hfin _ 1 hsh (by rw [hd1])
        simpa using this
      · rw [if_neg hb]
        simp only [orS, Option.bind_some]
        by_cases c1 : (dec x).1 = 34 ∨ (dec x).1 = 92
        · have d1 : ((((dec x).1 : Int) == 34) || (((dec x).1 : Int) == 92)) = true := by simp; omega
          obtain ⟨o1, o2⟩ := dec_one hB' hne (by omega)
          have hsh : shown x = [92, ((dec x).1 : Int)] := by unfold shown; rw [if_pos c1]
          have hs1 := hsub 1 (by omega)
          rw [take1 hB' hx1] at hs1
          simp only [d1, if_true, wi1, hs1, strOfNums_append, strOfNums_size]
          rw [if_pos (by simp; omega), if_pos (by refine ⟨trivial, ?_, ?_⟩ <;> omega), if_pos (by simp; omega)]
          simp only [Option.bind_some]
          have := hfin _ _ hsh rfl
          rw [o1] at this
          simpa using this
        · have d1 : ((((dec x).1 : Int) == 34) || (((dec x).1 : Int) == 92)) = false := by simp; omega
          simp only [d1, Bool.false_eq_true, if_false]
          by_cases c2 : (dec x).1 = 10
          · have d2 : (((dec x).1 : Int) == 10) = true := by simp; omega
            have hsh : shown x = [92, 110] := by unfold shown; rw [if_neg c1, if_pos c2]
            simp only [d2, if_true, e110, strOfNums_append, strOfNums_size]
            rw [if_pos (by simp; omega), if_pos (by simp; omega)]
            simp only [Option.bind_some]
            have := hfin _ _ hsh rfl
            simpa using this
          · have d2 : (((dec x).1 : Int) == 10) = false := by simp; omega
            simp only [d2, Bool.false_eq_true, if_false]
            by_cases c3 : (dec x).1 < 32 ∨ (dec x).1 = 127
            · have d3 : (if decide (((dec x).1 : Int) ≥ 32) = true then some (((dec x).1 : Int) != 127) else some false) = some false := by
                rcases c3 with c | c
                · have : decide (((dec x).1 : Int) ≥ 32) = false := by simp; omega
                  simp [this]
                · simp [c]
              have hsh : shown x = [92, 120, hexd (bn x 0 / 16), hexd (bn x 0 % 16)] := by
                unfold shown
                rw [if_neg c1, if_neg c2, if_pos (by rcases c3 with c | c <;> simp [c])]
              have t1 : (bn x 0 : Int).tdiv 16 = ((bn x 0 / 16 : Nat) : Int) := by rw [Int.tdiv_eq_ediv_of_nonneg (by omega)]; omega
              have t2 : (bn x 0 : Int).tmod 16 = ((bn x 0 % 16 : Nat) : Int) := by rw [Int.tmod_eq_emod_of_nonneg (by omega)]; omega
              have t3 : wi64 ((bn x 0 / 16 : Nat) : Int) = ((bn x 0 / 16 : Nat) : Int) := wi64_id (by omega)
              have t4 : wi64 (((bn x 0 / 16 : Nat) : Int) + 1) = ((bn x 0 / 16 + 1 : Nat) : Int) := by rw [wi64_id (by omega)]; omega
              have t5 : wi64 (((bn x 0 % 16 : Nat) : Int) + 1) = ((bn x 0 % 16 + 1 : Nat) : Int) := by rw [wi64_id (by omega)]; omega
              have t6 := digs_sub (bn x 0 / 16) (by omega)
              have t7 := digs_sub (bn x 0 % 16) (by omega)
              unfold digs at t6 t7
              simp only [d3, Bool.false_eq_true, if_false, Option.bind_some, w1, t1, t2, t3, t4, t5, t6, t7, e110, e120, strOfNums_append, strOfNums_size, digits_size]
              rw [if_pos (by simp; omega), if_pos (by simp; omega), if_pos (by omega), if_pos (by simp; omega), if_pos (by omega), if_pos (by simp; omega)]
              simp only [Option.bind_some]
              have := hfin _ _ hsh rfl
              simpa using this
            · have d3 : (if decide (((dec x).1 : Int) ≥ 32) = true then some (((dec x).1 : Int) != 127) else some false) = some true := by
                have a1 : decide (((dec x).1 : Int) ≥ 32) = true := by simp; omega
                have a2 : (((dec x).1 : Int) != 127) = true := by simp; omega
                rw [a1, a2]; rfl
              have hsh : shown x = x.take (dec x).2 := by
                unfold shown
                rw [if_neg c1, if_neg c2, if_neg (by intro h; rcases h with h | h | h; exact c3 (.inl h); exact c3 (.inr h); exact hb h)]
              have hwi : wi64 ((i : Int) + ((dec x).2 : Int)) = ((i + (dec x).2 : Nat) : Int) := by rw [wi64_id (by omega)]; omega
              simp only [d3, Option.bind_some, if_true]
              rw [hwi, hsub _ (by omega), if_pos (by refine ⟨trivial, ?_, ?_⟩ <;> omega)]
              simp only [strOfNums_append, strOfNums_size]
              rw [if_pos (by simp only [List.length_take]; omega)]
              simp only [Option.bind_some]
              have := hfin _ _ hsh rfl
              rw [hwi] at this
              exact this) [34] (by simp; omega)
  rw [show ref03_Quote.l0 (strOfNums l) FU (strOfNums [34]) 0 = _ from this]
  simp only [Option.bind_some, strOfNums_append, strOfNums_size]
  rw [if_pos (by simp; omega)]
  rfl
end Go.Cen
