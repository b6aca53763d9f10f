/- EVENT: what the document reads of any bytes. -/
import Derived.Test.YthdoklobbcedcadVGet
set_option linter.unusedVariables false
set_option linter.unusedSimpArgs false
set_option maxRecDepth 100000
namespace Go.Cen
theorem rnum {a : Int} (h0 : 0 ≤ a) (h : a ≤ 1125899906842624) {r : List Int} (hr : isB r) : ref04_GetNum (strOfNums (numL (clampN a) ++ r)) = some (a, strOfNums r, true) := by
  rw [ref04_GetNum_eq _ (isB_app (numL_isB _) hr), getR_num h0 h]
theorem rnum_cases {xs : List Int} (hx : isB xs) : ref04_GetNum (strOfNums xs) = some (0, ⟨#[]⟩, false) ∨ ∃ (n : Int) (r : List Int), 0 ≤ n ∧ n ≤ 1125899906842624 ∧ isB r ∧ xs = numL (clampN n) ++ r ∧ ref04_GetNum (strOfNums xs) = some (n, strOfNums r, true) := by
  rw [ref04_GetNum_eq _ hx, ← wire_GetNum_eq _ hx]; exact wire_num_cases hx
theorem rnum_same {xs : List Int} (hx : isB xs) : ref04_GetNum (strOfNums xs) = wire_GetNum (strOfNums xs) := by rw [ref04_GetNum_eq _ hx, wire_GetNum_eq _ hx]
/-- what a text's reading gives -/
theorem rtext_cases {xs : List Int} (hx : isB xs) (hn : xs.length ≤ 1000000) : (ref04_GetText (strOfNums xs) 100 = some (⟨#[]⟩, ⟨#[]⟩, false) ∧ wire_GetText (strOfNums xs) 100 = some (⟨#[]⟩, ⟨#[]⟩, false)) ∨ ∃ (s : ByteArray) (r : List Int), s.size ≤ 100 ∧ isB r ∧ ref04_GetText (strOfNums xs) 100 = some (s, strOfNums r, true) ∧ wire_GetText (strOfNums xs) 100 = some (s, strOfNums r, true) := by
  rcases wire_num_cases hx with h | ⟨n, r, h0, h1, hr, he, h⟩
  · left; constructor
    · unfold ref04_GetText; rw [rnum_same hx, h]; rfl
    · unfold wire_GetText wire_text; rw [h]; rfl
  · by_cases c : n > (if (100 : Int) < (r.length : Int) then 100 else (r.length : Int))
    · left; constructor
      · unfold ref04_GetText; rw [rnum_same hx, h]
        have c2 : n > (r.length : Int) ∨ n > 100 := by split at c <;> omega
        simp only [Option.bind_some, Bool.not_true, Bool.false_eq_true, if_false, strOfNums_size]
        by_cases c3 : n > (r.length : Int)
        · simp [c3]
        · have c4 : n > 100 := c2.resolve_left c3
          simp [c3, c4]
      · unfold wire_GetText wire_text; rw [h]
        simp only [Option.bind_some, Bool.not_true, Bool.false_eq_true, if_false, strOfNums_size, c, decide_true, if_true]
        rfl
    · right
      have hn1 : n ≤ 100 := by split at c <;> omega
      have hn2 : n ≤ (r.length : Int) := by split at c <;> omega
      rcases text_cases hx hn with ⟨a, b, q⟩ | ⟨s, r', k1, k2, k3, q⟩
      · exfalso
        unfold wire_GetText wire_text at q; rw [h] at q
        have g1 : (0 : Int) ≤ 0 ∧ (0 : Int) ≤ n ∧ n ≤ (r.length : Int) := by omega
        have g2 : (0 : Int) ≤ n ∧ n ≤ (r.length : Int) ∧ (r.length : Int) ≤ (r.length : Int) := by omega
        simp only [Option.bind_some, Bool.not_true, Bool.false_eq_true, if_false, strOfNums_size, c, decide_false, g1, g2, and_self, if_true, wire_got_string_parts, Option.some.injEq, Prod.mk.injEq] at q
        simp at q
      · refine ⟨s, r', k1, k2, ?_, q⟩
        have q2 := q
        unfold wire_GetText wire_text at q2; rw [h] at q2
        unfold ref04_GetText; rw [rnum_same hx, h]
        have g1 : (0 : Int) ≤ 0 ∧ (0 : Int) ≤ n ∧ n ≤ (r.length : Int) := by omega
        have g2 : (0 : Int) ≤ n ∧ n ≤ (r.length : Int) ∧ (r.length : Int) ≤ (r.length : Int) := by omega
        have c3 : ¬ n > (r.length : Int) := by omega
        have c4 : ¬ n > 100 := by omega
        simp only [Option.bind_some, Bool.not_true, Bool.false_eq_true, if_false, strOfNums_size, c, decide_false, g1, g2, and_self, if_true, wire_got_string_parts] at q2
        simp only [Option.bind_some, Bool.not_true, Bool.false_eq_true, if_false, strOfNums_size, c3, c4, decide_false, g1, g2, and_self, if_true]
        exact q2
theorem rsum_l0 {xs : List Int} (hx : isB xs) (h32 : 32 ≤ xs.length) : ref04_GetSum.l0 (strOfNums xs) FU 0 (List.replicate 32 (0 : Int)) = some (xs.take 32) := by
  have := loopNI 32 (by omega) (fun k i (s : List Int) => ref04_GetSum.l0 (strOfNums xs) k i s) (fun i s => some (s.take i ++ (xs.drop i).take (32 - i))) (fun i s => s.length = 32)
    (fun k s hs => by
      have hd : decide (((32 : Nat) : Int) < 32) = false := by decide
      simp only [ref04_GetSum.l0, hd, Bool.false_eq_true, if_false]
      rw [List.take_of_length_le (by omega)]; simp)
    (fun k i hi hw s hs ih => by
      have hd : decide ((i : Int) < 32) = true := by simp; omega
      have hg : 0 ≤ (i : Int) ∧ (i : Int) < ((strOfNums xs).size : Int) := by rw [strOfNums_size]; omega
      have hg2 : 0 ≤ (i : Int) ∧ (i : Int) < 32 := by omega
      have hb : bt (strOfNums xs) (i : Int) = xs[i] := by rw [bt_str hx, gt_nat xs i (by omega)]
      have hst : (st s (i : Int) (xs[i])).length = 32 := by simp [st, hs]
      simp only [ref04_GetSum.l0, hd, if_true, hg, hg2, and_self, hb, hw]
      rw [ih _ hst]
      congr 1
      have hcons : xs.drop i = xs[i] :: xs.drop (i + 1) := List.drop_eq_getElem_cons (by omega)
      have e1 : (32 - i) = (32 - (i + 1)) + 1 := by omega
      rw [hcons, e1, List.take_succ_cons]
      have e2 : (st s (i : Int) (xs[i])).take (i + 1) = s.take i ++ [xs[i]] := by
        unfold st
        have : (i : Int).toNat = i := by omega
        rw [this, List.take_add_one, List.take_set_of_le (Nat.le_refl _), List.getElem?_set_self (by omega)]
        rfl
      rw [e2, List.append_assoc]; rfl) (List.replicate 32 0) (by simp)
  rw [this]; simp
theorem rsum_cases {xs : List Int} (hx : isB xs) : (ref04_GetSum (strOfNums xs) = some (z32, ⟨#[]⟩, false) ∧ wire_GetSum (strOfNums xs) = some (z32, ⟨#[]⟩, false)) ∨ ∃ (d r : List Int), d.length = 32 ∧ isB d ∧ isB r ∧ ref04_GetSum (strOfNums xs) = some (d, strOfNums r, true) ∧ wire_GetSum (strOfNums xs) = some (d, strOfNums r, true) := by
  by_cases c : xs.length < 32
  · left
    have : ((strOfNums xs).size : Int) < 32 := by rw [strOfNums_size]; omega
    constructor
    · unfold ref04_GetSum; simp only [this, decide_true, if_true]; rfl
    · unfold wire_GetSum; simp only [this, decide_true, if_true]; rfl
  · right
    have e : xs = xs.take 32 ++ xs.drop 32 := (List.take_append_drop 32 xs).symm
    have hl : (xs.take 32).length = 32 := by rw [List.length_take]; omega
    refine ⟨xs.take 32, xs.drop 32, hl, isB_take hx 32, isB_drop hx 32, ?_, ?_⟩
    · unfold ref04_GetSum
      have c2 : ¬ ((strOfNums xs).size : Int) < 32 := by rw [strOfNums_size]; omega
      have g : (0 : Int) ≤ 32 ∧ (32 : Int) ≤ ((strOfNums xs).size : Int) ∧ ((strOfNums xs).size : Int) ≤ ((strOfNums xs).size : Int) := by rw [strOfNums_size]; omega
      have es : sx (strOfNums xs) 32 ((strOfNums xs).size : Int) = strOfNums (xs.drop 32) := by
        rw [sx_str, strOfNums_size]
        have h1 : (xs.length : Int).toNat = xs.length := by omega
        have h2 : (32 : Int).toNat = 32 := rfl
        rw [h1, List.take_length, h2]
      simp only [c2, decide_false, Bool.false_eq_true, if_false, rsum_l0 hx (by omega), Option.bind_some, g, and_self, if_true, es]
    · have := gsum hl (isB_take hx 32) (isB_drop hx 32)
      rw [← e] at this
      exact this
end Go.Cen
