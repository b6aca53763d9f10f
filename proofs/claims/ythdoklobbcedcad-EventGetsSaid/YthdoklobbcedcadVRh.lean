/- EVENT: the event that any bytes begin with. -/
import Derived.Test.YthdoklobbcedcadVRg
set_option linter.unusedVariables false
set_option linter.unusedSimpArgs false
set_option maxRecDepth 100000
namespace Go.Cen
theorem rtext_same {xs : List Int} (hx : isB xs) (hn : xs.length ≤ 1000000) : ref04_GetText (strOfNums xs) 100 = wire_GetText (strOfNums xs) 100 := by
  rcases rtext_cases hx hn with ⟨a, b⟩ | ⟨s, r, _, _, a, b⟩ <;> rw [a, b]
theorem rsum_same {xs : List Int} (hx : isB xs) : ref04_GetSum (strOfNums xs) = wire_GetSum (strOfNums xs) := by
  rcases rsum_cases hx with ⟨a, b⟩ | ⟨s, r, _, _, _, a, b⟩ <;> rw [a, b]
theorem RV {k i t l : Int} {nm : ByteArray} {s : List Int} (h1 : nm.size ≤ 100) (h2 : s.length = 32) (h3 : isB s) : ref05_Valid ⟨k, i, nm, t, l, s⟩ = some (validE ⟨k, i, nm, t, l, s⟩) := ref05_Valid_eq ⟨by show nm.size ≤ _; omega, h2, h3⟩
theorem RV0 (k i t l : Int) : ref05_Valid ⟨k, i, ⟨#[]⟩, t, l, List.replicate 32 (0 : Int)⟩ = some (validE ⟨k, i, ⟨#[]⟩, t, l, List.replicate 32 (0 : Int)⟩) := RV (by show (0 : Nat) ≤ _; omega) z32_ok.1 z32_ok.2
theorem tl0 : tells5 0 = [true, true, false, false, false] := rfl
theorem tl4 : tells5 4 = [true, true, false, false, false] := rfl
theorem tl5 : tells5 5 = [true, true, false, false, false] := rfl
theorem tl1 : tells5 1 = [true, false, false, true, false] := rfl
theorem tl2 : tells5 2 = [true, false, true, true, true] := rfl
theorem tl3 : tells5 3 = [true, false, true, false, false] := rfl
theorem tl6 : tells5 6 = [true, false, false, false, false] := rfl
theorem tl7 : tells5 7 = [false, false, true, false, false] := rfl
theorem gtB0 (a b c d e : Bool) : gt [a, b, c, d, e] 0 = a := rfl
theorem gtB1 (a b c d e : Bool) : gt [a, b, c, d, e] 1 = b := rfl
theorem gtB2 (a b c d e : Bool) : gt [a, b, c, d, e] 2 = c := rfl
theorem gtB3 (a b c d e : Bool) : gt [a, b, c, d, e] 3 = d := rfl
theorem gtB4 (a b c d e : Bool) : gt [a, b, c, d, e] 4 = e := rfl
/-- what both come to, said once -/
def outR (e : ApiEvent) (r : List Int) : Option (ApiEvent × ByteArray × Bool) := if validE e = true then some (e, strOfNums r, true) else some (evZ, ⟨#[]⟩, false)
def AnyR (xs : List Int) : Prop := ref05_Get (strOfNums xs) = some (evZ, ⟨#[]⟩, false) ∨ ∃ (e : ApiEvent) (r : List Int), okE e ∧ e.Name.size ≤ 100 ∧ validE e = true ∧ isB r ∧ xs = putE e ++ r ∧ ref05_Get (strOfNums xs) = some (e, strOfNums r, true)
theorem anyR_of {xs : List Int} {e : ApiEvent} {r : List Int} (h1 : okE e) (h2 : e.Name.size ≤ 100) (h3 : isB r) (h4 : xs = putE e ++ r) (h : ref05_Get (strOfNums xs) = outR e r) : AnyR xs := by
  unfold outR at h
  cases hv : validE e with
  | false => rw [hv] at h; exact .inl h
  | true => rw [hv] at h; exact .inr ⟨e, r, h1, h2, hv, h3, h4, h⟩
theorem fin_out (e : ApiEvent) (r : List Int) (h1 : e.Name.size ≤ 100) (h2 : e.Sum.length = 32) (h3 : isB e.Sum) : ((ref05_Valid e).bind fun y72 => ((if (!true) = true then some true else some (!y72)).bind fun x73 => (if x73 = true then some ((ApiEvent.mk 0 0 (⟨#[]⟩ : ByteArray) 0 0 (List.replicate 32 (0 : Int))), (⟨#[]⟩ : ByteArray), false) else some (e, strOfNums r, true)))) = outR e r := by
  rw [ref05_Valid_eq ⟨by omega, h2, h3⟩]
  unfold outR
  cases validE e <;> rfl
theorem RV0z (k i t l : Int) : ref05_Valid ⟨k, i, ⟨#[]⟩, t, l, z32⟩ = some (validE ⟨k, i, ⟨#[]⟩, t, l, z32⟩) := RV (by show (0 : Nat) ≤ _; omega) z32_ok.1 z32_ok.2
theorem rt {xs : List Int} (hx : isB xs) (hn : xs.length ≤ 1000000) : ref04_GetText (strOfNums xs) 100 = some (⟨#[]⟩, ⟨#[]⟩, false) ∨ ∃ (s : ByteArray) (r : List Int), s.size ≤ 100 ∧ isB r ∧ xs = (numL (clampN (s.size : Int)) ++ byts s) ++ r ∧ ref04_GetText (strOfNums xs) 100 = some (s, strOfNums r, true) := by
  rcases rtext_cases hx hn with ⟨a, b⟩ | ⟨s, r, _, _, a, b⟩
  · exact .inl a
  · rcases text_cases hx hn with ⟨x, y, w⟩ | ⟨s', r', h1, h2, h3, w⟩
    · rw [b] at w; simp at w
    · exact .inr ⟨s', r', h1, h2, h3, by rw [rtext_same hx hn]; exact w⟩
theorem rs {xs : List Int} (hx : isB xs) : ref04_GetSum (strOfNums xs) = some (z32, ⟨#[]⟩, false) ∨ ∃ (d r : List Int), d.length = 32 ∧ isB d ∧ isB r ∧ xs = d ++ r ∧ ref04_GetSum (strOfNums xs) = some (d, strOfNums r, true) := by
  rcases rsum_cases hx with ⟨a, b⟩ | ⟨s, r, _, _, _, a, b⟩
  · exact .inl a
  · rcases sum_cases hx with ⟨x, y, w⟩ | ⟨s', r', h1, h2, h3, h4, w⟩
    · rw [b] at w; simp at w
    · exact .inr ⟨s', r', h1, h2, h3, h4, by rw [rsum_same hx]; exact w⟩
theorem rGet_any {xs : List Int} (hx : isB xs) (hn : xs.length ≤ 1000000) : AnyR xs := by
  have hz := z32_ok
  rcases rnum_cases hx with h | ⟨n, r, h0, h1, hr, he, h⟩
  · left; unfold ref05_Get; rw [h]; rfl
  by_cases h8 : n > 7
  · left; unfold ref05_Get; rw [h]
    simp only [Option.bind_some, Bool.not_true, Bool.false_eq_true, if_false, h8, decide_true, if_true]
    rfl
  have hrl : r.length ≤ 1000000 := by have := congrArg List.length he; rw [List.length_append] at this; omega
  have e0s : (⟨#[]⟩ : ByteArray).size = 0 := rfl
  rcases kinds n with k | k | k | k | k | k | k | k | ⟨k0, k4, k5, k1, k2, k3, k6, k7⟩
  case inr.inr.inr.inr.inr.inr.inr.inr => omega
  all_goals subst k
  · rcases rnum_cases hr with q0 | ⟨a, r0, l0, u0, hr0, e0, q0⟩
    · left; unfold ref05_Get; rw [h]; simp only [Option.bind_some, Bool.not_true, Bool.not_false, Bool.false_eq_true, if_false, if_true, h8, decide_false, tells_eq, tl0, gtB0, gtB1, gtB2, gtB3, gtB4, RV0, RV0z, q0]; rfl
    ·
      rcases rt hr0 (by have := congrArg List.length e0; rw [List.length_append] at this; omega) with q1 | ⟨s, r1, s1, hr1, e1, q1⟩
      · left; unfold ref05_Get; rw [h]; simp only [Option.bind_some, Bool.not_true, Bool.not_false, Bool.false_eq_true, if_false, if_true, h8, decide_false, tells_eq, tl0, gtB0, gtB1, gtB2, gtB3, gtB4, RV0, RV0z, q0, q1]; rfl
      ·
        refine anyR_of (e := ⟨0, a, s, 0, 0, z32⟩) (r := r1) ⟨(by show s.size ≤ 100000; omega), hz.1, hz.2⟩ s1 hr1 ?_ ?_
        · rw [he, e0, e1]; simp [putE, partsE, bytD]
        · unfold ref05_Get; rw [h]; simp only [Option.bind_some, Bool.not_true, Bool.not_false, Bool.false_eq_true, if_false, if_true, h8, decide_false, tells_eq, tl0, gtB0, gtB1, gtB2, gtB3, gtB4, q0, q1]; exact fin_out ⟨0, a, s, 0, 0, z32⟩ r1 s1 hz.1 hz.2
  · rcases rnum_cases hr with q0 | ⟨a, r0, l0, u0, hr0, e0, q0⟩
    · left; unfold ref05_Get; rw [h]; simp only [Option.bind_some, Bool.not_true, Bool.not_false, Bool.false_eq_true, if_false, if_true, h8, decide_false, tells_eq, tl4, gtB0, gtB1, gtB2, gtB3, gtB4, RV0, RV0z, q0]; rfl
    ·
      rcases rt hr0 (by have := congrArg List.length e0; rw [List.length_append] at this; omega) with q1 | ⟨s, r1, s1, hr1, e1, q1⟩
      · left; unfold ref05_Get; rw [h]; simp only [Option.bind_some, Bool.not_true, Bool.not_false, Bool.false_eq_true, if_false, if_true, h8, decide_false, tells_eq, tl4, gtB0, gtB1, gtB2, gtB3, gtB4, RV0, RV0z, q0, q1]; rfl
      ·
        refine anyR_of (e := ⟨4, a, s, 0, 0, z32⟩) (r := r1) ⟨(by show s.size ≤ 100000; omega), hz.1, hz.2⟩ s1 hr1 ?_ ?_
        · rw [he, e0, e1]; simp [putE, partsE, bytD]
        · unfold ref05_Get; rw [h]; simp only [Option.bind_some, Bool.not_true, Bool.not_false, Bool.false_eq_true, if_false, if_true, h8, decide_false, tells_eq, tl4, gtB0, gtB1, gtB2, gtB3, gtB4, q0, q1]; exact fin_out ⟨4, a, s, 0, 0, z32⟩ r1 s1 hz.1 hz.2
  · rcases rnum_cases hr with q0 | ⟨a, r0, l0, u0, hr0, e0, q0⟩
    · left; unfold ref05_Get; rw [h]; simp only [Option.bind_some, Bool.not_true, Bool.not_false, Bool.false_eq_true, if_false, if_true, h8, decide_false, tells_eq, tl5, gtB0, gtB1, gtB2, gtB3, gtB4, RV0, RV0z, q0]; rfl
    ·
      rcases rt hr0 (by have := congrArg List.length e0; rw [List.length_append] at this; omega) with q1 | ⟨s, r1, s1, hr1, e1, q1⟩
      · left; unfold ref05_Get; rw [h]; simp only [Option.bind_some, Bool.not_true, Bool.not_false, Bool.false_eq_true, if_false, if_true, h8, decide_false, tells_eq, tl5, gtB0, gtB1, gtB2, gtB3, gtB4, RV0, RV0z, q0, q1]; rfl
      ·
        refine anyR_of (e := ⟨5, a, s, 0, 0, z32⟩) (r := r1) ⟨(by show s.size ≤ 100000; omega), hz.1, hz.2⟩ s1 hr1 ?_ ?_
        · rw [he, e0, e1]; simp [putE, partsE, bytD]
        · unfold ref05_Get; rw [h]; simp only [Option.bind_some, Bool.not_true, Bool.not_false, Bool.false_eq_true, if_false, if_true, h8, decide_false, tells_eq, tl5, gtB0, gtB1, gtB2, gtB3, gtB4, q0, q1]; exact fin_out ⟨5, a, s, 0, 0, z32⟩ r1 s1 hz.1 hz.2
  · rcases rnum_cases hr with q0 | ⟨a, r0, l0, u0, hr0, e0, q0⟩
    · left; unfold ref05_Get; rw [h]; simp only [Option.bind_some, Bool.not_true, Bool.not_false, Bool.false_eq_true, if_false, if_true, h8, decide_false, tells_eq, tl1, gtB0, gtB1, gtB2, gtB3, gtB4, RV0, RV0z, q0]; rfl
    ·
      rcases rnum_cases hr0 with q1 | ⟨b, r1, l1, u1, hr1, e1, q1⟩
      · left; unfold ref05_Get; rw [h]; simp only [Option.bind_some, Bool.not_true, Bool.not_false, Bool.false_eq_true, if_false, if_true, h8, decide_false, tells_eq, tl1, gtB0, gtB1, gtB2, gtB3, gtB4, RV0, RV0z, q0, q1]; rfl
      ·
        refine anyR_of (e := ⟨1, a, ⟨#[]⟩, 0, b, z32⟩) (r := r1) ⟨(by show (0 : Nat) ≤ 100000; omega), hz.1, hz.2⟩ (by show (0 : Nat) ≤ 100; omega) hr1 ?_ ?_
        · rw [he, e0, e1]; simp [putE, partsE, bytD]
        · unfold ref05_Get; rw [h]; simp only [Option.bind_some, Bool.not_true, Bool.not_false, Bool.false_eq_true, if_false, if_true, h8, decide_false, tells_eq, tl1, gtB0, gtB1, gtB2, gtB3, gtB4, q0, q1]; exact fin_out ⟨1, a, ⟨#[]⟩, 0, b, z32⟩ r1 (by show (0 : Nat) ≤ 100; omega) hz.1 hz.2
  · rcases rnum_cases hr with q0 | ⟨a, r0, l0, u0, hr0, e0, q0⟩
    · left; unfold ref05_Get; rw [h]; simp only [Option.bind_some, Bool.not_true, Bool.not_false, Bool.false_eq_true, if_false, if_true, h8, decide_false, tells_eq, tl2, gtB0, gtB1, gtB2, gtB3, gtB4, RV0, RV0z, q0]; rfl
    ·
      rcases rnum_cases hr0 with q1 | ⟨b, r1, l1, u1, hr1, e1, q1⟩
      · left; unfold ref05_Get; rw [h]; simp only [Option.bind_some, Bool.not_true, Bool.not_false, Bool.false_eq_true, if_false, if_true, h8, decide_false, tells_eq, tl2, gtB0, gtB1, gtB2, gtB3, gtB4, RV0, RV0z, q0, q1]; rfl
      ·
        rcases rnum_cases hr1 with q2 | ⟨c, r2, l2, u2, hr2, e2, q2⟩
        · left; unfold ref05_Get; rw [h]; simp only [Option.bind_some, Bool.not_true, Bool.not_false, Bool.false_eq_true, if_false, if_true, h8, decide_false, tells_eq, tl2, gtB0, gtB1, gtB2, gtB3, gtB4, RV0, RV0z, q0, q1, q2]; rfl
        ·
          rcases rs hr2 with q3 | ⟨d, r3, d1, d2, hr3, e3, q3⟩
          · left; unfold ref05_Get; rw [h]; simp only [Option.bind_some, Bool.not_true, Bool.not_false, Bool.false_eq_true, if_false, if_true, h8, decide_false, tells_eq, tl2, gtB0, gtB1, gtB2, gtB3, gtB4, RV0, RV0z, q0, q1, q2, q3]; rfl
          ·
            refine anyR_of (e := ⟨2, a, ⟨#[]⟩, b, c, d⟩) (r := r3) ⟨(by show (0 : Nat) ≤ 100000; omega), d1, d2⟩ (by show (0 : Nat) ≤ 100; omega) hr3 ?_ ?_
            · rw [he, e0, e1, e2, e3]; simp [putE, partsE, bytD]
            · unfold ref05_Get; rw [h]; simp only [Option.bind_some, Bool.not_true, Bool.not_false, Bool.false_eq_true, if_false, if_true, h8, decide_false, tells_eq, tl2, gtB0, gtB1, gtB2, gtB3, gtB4, q0, q1, q2, q3]; exact fin_out ⟨2, a, ⟨#[]⟩, b, c, d⟩ r3 (by show (0 : Nat) ≤ 100; omega) d1 d2
  · rcases rnum_cases hr with q0 | ⟨a, r0, l0, u0, hr0, e0, q0⟩
    · left; unfold ref05_Get; rw [h]; simp only [Option.bind_some, Bool.not_true, Bool.not_false, Bool.false_eq_true, if_false, if_true, h8, decide_false, tells_eq, tl3, gtB0, gtB1, gtB2, gtB3, gtB4, RV0, RV0z, q0]; rfl
    ·
      rcases rnum_cases hr0 with q1 | ⟨b, r1, l1, u1, hr1, e1, q1⟩
      · left; unfold ref05_Get; rw [h]; simp only [Option.bind_some, Bool.not_true, Bool.not_false, Bool.false_eq_true, if_false, if_true, h8, decide_false, tells_eq, tl3, gtB0, gtB1, gtB2, gtB3, gtB4, RV0, RV0z, q0, q1]; rfl
      ·
        refine anyR_of (e := ⟨3, a, ⟨#[]⟩, b, 0, z32⟩) (r := r1) ⟨(by show (0 : Nat) ≤ 100000; omega), hz.1, hz.2⟩ (by show (0 : Nat) ≤ 100; omega) hr1 ?_ ?_
        · rw [he, e0, e1]; simp [putE, partsE, bytD]
        · unfold ref05_Get; rw [h]; simp only [Option.bind_some, Bool.not_true, Bool.not_false, Bool.false_eq_true, if_false, if_true, h8, decide_false, tells_eq, tl3, gtB0, gtB1, gtB2, gtB3, gtB4, q0, q1]; exact fin_out ⟨3, a, ⟨#[]⟩, b, 0, z32⟩ r1 (by show (0 : Nat) ≤ 100; omega) hz.1 hz.2
  · rcases rnum_cases hr with q0 | ⟨a, r0, l0, u0, hr0, e0, q0⟩
    · left; unfold ref05_Get; rw [h]; simp only [Option.bind_some, Bool.not_true, Bool.not_false, Bool.false_eq_true, if_false, if_true, h8, decide_false, tells_eq, tl6, gtB0, gtB1, gtB2, gtB3, gtB4, RV0, RV0z, q0]; rfl
    ·
      refine anyR_of (e := ⟨6, a, ⟨#[]⟩, 0, 0, z32⟩) (r := r0) ⟨(by show (0 : Nat) ≤ 100000; omega), hz.1, hz.2⟩ (by show (0 : Nat) ≤ 100; omega) hr0 ?_ ?_
      · rw [he, e0]; simp [putE, partsE, bytD]
      · unfold ref05_Get; rw [h]; simp only [Option.bind_some, Bool.not_true, Bool.not_false, Bool.false_eq_true, if_false, if_true, h8, decide_false, tells_eq, tl6, gtB0, gtB1, gtB2, gtB3, gtB4, q0]; exact fin_out ⟨6, a, ⟨#[]⟩, 0, 0, z32⟩ r0 (by show (0 : Nat) ≤ 100; omega) hz.1 hz.2
  · rcases rnum_cases hr with q0 | ⟨a, r0, l0, u0, hr0, e0, q0⟩
    · left; unfold ref05_Get; rw [h]; simp only [Option.bind_some, Bool.not_true, Bool.not_false, Bool.false_eq_true, if_false, if_true, h8, decide_false, tells_eq, tl7, gtB0, gtB1, gtB2, gtB3, gtB4, RV0, RV0z, q0]; rfl
    ·
      refine anyR_of (e := ⟨7, 0, ⟨#[]⟩, a, 0, z32⟩) (r := r0) ⟨(by show (0 : Nat) ≤ 100000; omega), hz.1, hz.2⟩ (by show (0 : Nat) ≤ 100; omega) hr0 ?_ ?_
      · rw [he, e0]; simp [putE, partsE, bytD]
      · unfold ref05_Get; rw [h]; simp only [Option.bind_some, Bool.not_true, Bool.not_false, Bool.false_eq_true, if_false, if_true, h8, decide_false, tells_eq, tl7, gtB0, gtB1, gtB2, gtB3, gtB4, q0]; exact fin_out ⟨7, 0, ⟨#[]⟩, a, 0, z32⟩ r0 (by show (0 : Nat) ≤ 100; omega) hz.1 hz.2
theorem rput0 {a : Int} (a0 : 0 ≤ a ∧ a ≤ 1125899906842624) {s : ByteArray} (s1 : s.size ≤ 100) {r : List Int} (hr : isB r) (hl : r.length ≤ 1000) (hv : validE ⟨0, a, s, 0, 0, z32⟩ = true) : ref05_Get (strOfNums (putE ⟨0, a, s, 0, 0, z32⟩ ++ r)) = some (⟨0, a, s, 0, 0, z32⟩, strOfNums r, true) := by
  have hz := z32_ok
  have hp : putE ⟨0, a, s, 0, 0, z32⟩ ++ r = numL (clampN 0) ++ (numL (clampN a) ++ ((numL (clampN (s.size : Int)) ++ byts s) ++ r)) := by simp [putE, partsE, bytD]
  have h8 : ¬ (0 : Int) > 7 := by omega
  have h := rnum (a := 0) (by omega) (by omega) (isB_app (numL_isB (clampN a)) (isB_app (isB_app (numL_isB (clampN (s.size : Int))) (byts_isB s)) hr))
  have q0 := rnum a0.1 a0.2 (isB_app (isB_app (numL_isB (clampN (s.size : Int))) (byts_isB s)) hr)
  have q1 := (rtext_same (isB_app (isB_app (numL_isB (clampN (s.size : Int))) (byts_isB s)) hr) (by have := numL_len 7 (clampN (s.size : Int)) (by have := clampN_le (s.size : Int); omega); simp only [List.length_append, byts_len]; omega)).trans (gtext s1 hr)
  rw [hp]; unfold ref05_Get; rw [h]
  simp only [Option.bind_some, Bool.not_true, Bool.not_false, Bool.false_eq_true, if_false, if_true, h8, decide_false, tells_eq, tl0, gtB0, gtB1, gtB2, gtB3, gtB4, q0, q1]
  exact (fin_out ⟨0, a, s, 0, 0, z32⟩ r s1 hz.1 hz.2).trans (by unfold outR; rw [hv]; rfl)
theorem rput4 {a : Int} (a0 : 0 ≤ a ∧ a ≤ 1125899906842624) {s : ByteArray} (s1 : s.size ≤ 100) {r : List Int} (hr : isB r) (hl : r.length ≤ 1000) (hv : validE ⟨4, a, s, 0, 0, z32⟩ = true) : ref05_Get (strOfNums (putE ⟨4, a, s, 0, 0, z32⟩ ++ r)) = some (⟨4, a, s, 0, 0, z32⟩, strOfNums r, true) := by
  have hz := z32_ok
  have hp : putE ⟨4, a, s, 0, 0, z32⟩ ++ r = numL (clampN 4) ++ (numL (clampN a) ++ ((numL (clampN (s.size : Int)) ++ byts s) ++ r)) := by simp [putE, partsE, bytD]
  have h8 : ¬ (4 : Int) > 7 := by omega
  have h := rnum (a := 4) (by omega) (by omega) (isB_app (numL_isB (clampN a)) (isB_app (isB_app (numL_isB (clampN (s.size : Int))) (byts_isB s)) hr))
  have q0 := rnum a0.1 a0.2 (isB_app (isB_app (numL_isB (clampN (s.size : Int))) (byts_isB s)) hr)
  have q1 := (rtext_same (isB_app (isB_app (numL_isB (clampN (s.size : Int))) (byts_isB s)) hr) (by have := numL_len 7 (clampN (s.size : Int)) (by have := clampN_le (s.size : Int); omega); simp only [List.length_append, byts_len]; omega)).trans (gtext s1 hr)
  rw [hp]; unfold ref05_Get; rw [h]
  simp only [Option.bind_some, Bool.not_true, Bool.not_false, Bool.false_eq_true, if_false, if_true, h8, decide_false, tells_eq, tl4, gtB0, gtB1, gtB2, gtB3, gtB4, q0, q1]
  exact (fin_out ⟨4, a, s, 0, 0, z32⟩ r s1 hz.1 hz.2).trans (by unfold outR; rw [hv]; rfl)
theorem rput5 {a : Int} (a0 : 0 ≤ a ∧ a ≤ 1125899906842624) {s : ByteArray} (s1 : s.size ≤ 100) {r : List Int} (hr : isB r) (hl : r.length ≤ 1000) (hv : validE ⟨5, a, s, 0, 0, z32⟩ = true) : ref05_Get (strOfNums (putE ⟨5, a, s, 0, 0, z32⟩ ++ r)) = some (⟨5, a, s, 0, 0, z32⟩, strOfNums r, true) := by
  have hz := z32_ok
  have hp : putE ⟨5, a, s, 0, 0, z32⟩ ++ r = numL (clampN 5) ++ (numL (clampN a) ++ ((numL (clampN (s.size : Int)) ++ byts s) ++ r)) := by simp [putE, partsE, bytD]
  have h8 : ¬ (5 : Int) > 7 := by omega
  have h := rnum (a := 5) (by omega) (by omega) (isB_app (numL_isB (clampN a)) (isB_app (isB_app (numL_isB (clampN (s.size : Int))) (byts_isB s)) hr))
  have q0 := rnum a0.1 a0.2 (isB_app (isB_app (numL_isB (clampN (s.size : Int))) (byts_isB s)) hr)
  have q1 := (rtext_same (isB_app (isB_app (numL_isB (clampN (s.size : Int))) (byts_isB s)) hr) (by have := numL_len 7 (clampN (s.size : Int)) (by have := clampN_le (s.size : Int); omega); simp only [List.length_append, byts_len]; omega)).trans (gtext s1 hr)
  rw [hp]; unfold ref05_Get; rw [h]
  simp only [Option.bind_some, Bool.not_true, Bool.not_false, Bool.false_eq_true, if_false, if_true, h8, decide_false, tells_eq, tl5, gtB0, gtB1, gtB2, gtB3, gtB4, q0, q1]
  exact (fin_out ⟨5, a, s, 0, 0, z32⟩ r s1 hz.1 hz.2).trans (by unfold outR; rw [hv]; rfl)
theorem rput1 {a : Int} (a0 : 0 ≤ a ∧ a ≤ 1125899906842624) {b : Int} (b0 : 0 ≤ b ∧ b ≤ 1125899906842624) {r : List Int} (hr : isB r) (hl : r.length ≤ 1000) (hv : validE ⟨1, a, ⟨#[]⟩, 0, b, z32⟩ = true) : ref05_Get (strOfNums (putE ⟨1, a, ⟨#[]⟩, 0, b, z32⟩ ++ r)) = some (⟨1, a, ⟨#[]⟩, 0, b, z32⟩, strOfNums r, true) := by
  have hz := z32_ok
  have hp : putE ⟨1, a, ⟨#[]⟩, 0, b, z32⟩ ++ r = numL (clampN 1) ++ (numL (clampN a) ++ (numL (clampN b) ++ r)) := by simp [putE, partsE, bytD]
  have h8 : ¬ (1 : Int) > 7 := by omega
  have h := rnum (a := 1) (by omega) (by omega) (isB_app (numL_isB (clampN a)) (isB_app (numL_isB (clampN b)) hr))
  have q0 := rnum a0.1 a0.2 (isB_app (numL_isB (clampN b)) hr)
  have q1 := rnum b0.1 b0.2 hr
  rw [hp]; unfold ref05_Get; rw [h]
  simp only [Option.bind_some, Bool.not_true, Bool.not_false, Bool.false_eq_true, if_false, if_true, h8, decide_false, tells_eq, tl1, gtB0, gtB1, gtB2, gtB3, gtB4, q0, q1]
  exact (fin_out ⟨1, a, ⟨#[]⟩, 0, b, z32⟩ r (by show (0 : Nat) ≤ 100; omega) hz.1 hz.2).trans (by unfold outR; rw [hv]; rfl)
theorem rput2 {a : Int} (a0 : 0 ≤ a ∧ a ≤ 1125899906842624) {b : Int} (b0 : 0 ≤ b ∧ b ≤ 1125899906842624) {c : Int} (c0 : 0 ≤ c ∧ c ≤ 1125899906842624) {d : List Int} (d1 : d.length = 32) (d2 : isB d) {r : List Int} (hr : isB r) (hl : r.length ≤ 1000) (hv : validE ⟨2, a, ⟨#[]⟩, b, c, d⟩ = true) : ref05_Get (strOfNums (putE ⟨2, a, ⟨#[]⟩, b, c, d⟩ ++ r)) = some (⟨2, a, ⟨#[]⟩, b, c, d⟩, strOfNums r, true) := by
  have hz := z32_ok
  have hp : putE ⟨2, a, ⟨#[]⟩, b, c, d⟩ ++ r = numL (clampN 2) ++ (numL (clampN a) ++ (numL (clampN b) ++ (numL (clampN c) ++ (d ++ r)))) := by simp [putE, partsE, bytD]
  have h8 : ¬ (2 : Int) > 7 := by omega
  have h := rnum (a := 2) (by omega) (by omega) (isB_app (numL_isB (clampN a)) (isB_app (numL_isB (clampN b)) (isB_app (numL_isB (clampN c)) (isB_app (d2) hr))))
  have q0 := rnum a0.1 a0.2 (isB_app (numL_isB (clampN b)) (isB_app (numL_isB (clampN c)) (isB_app (d2) hr)))
  have q1 := rnum b0.1 b0.2 (isB_app (numL_isB (clampN c)) (isB_app (d2) hr))
  have q2 := rnum c0.1 c0.2 (isB_app (d2) hr)
  have q3 := (rsum_same (isB_app (d2) hr)).trans (gsum d1 d2 hr)
  rw [hp]; unfold ref05_Get; rw [h]
  simp only [Option.bind_some, Bool.not_true, Bool.not_false, Bool.false_eq_true, if_false, if_true, h8, decide_false, tells_eq, tl2, gtB0, gtB1, gtB2, gtB3, gtB4, q0, q1, q2, q3]
  exact (fin_out ⟨2, a, ⟨#[]⟩, b, c, d⟩ r (by show (0 : Nat) ≤ 100; omega) d1 d2).trans (by unfold outR; rw [hv]; rfl)
theorem rput3 {a : Int} (a0 : 0 ≤ a ∧ a ≤ 1125899906842624) {b : Int} (b0 : 0 ≤ b ∧ b ≤ 1125899906842624) {r : List Int} (hr : isB r) (hl : r.length ≤ 1000) (hv : validE ⟨3, a, ⟨#[]⟩, b, 0, z32⟩ = true) : ref05_Get (strOfNums (putE ⟨3, a, ⟨#[]⟩, b, 0, z32⟩ ++ r)) = some (⟨3, a, ⟨#[]⟩, b, 0, z32⟩, strOfNums r, true) := by
  have hz := z32_ok
  have hp : putE ⟨3, a, ⟨#[]⟩, b, 0, z32⟩ ++ r = numL (clampN 3) ++ (numL (clampN a) ++ (numL (clampN b) ++ r)) := by simp [putE, partsE, bytD]
  have h8 : ¬ (3 : Int) > 7 := by omega
  have h := rnum (a := 3) (by omega) (by omega) (isB_app (numL_isB (clampN a)) (isB_app (numL_isB (clampN b)) hr))
  have q0 := rnum a0.1 a0.2 (isB_app (numL_isB (clampN b)) hr)
  have q1 := rnum b0.1 b0.2 hr
  rw [hp]; unfold ref05_Get; rw [h]
  simp only [Option.bind_some, Bool.not_true, Bool.not_false, Bool.false_eq_true, if_false, if_true, h8, decide_false, tells_eq, tl3, gtB0, gtB1, gtB2, gtB3, gtB4, q0, q1]
  exact (fin_out ⟨3, a, ⟨#[]⟩, b, 0, z32⟩ r (by show (0 : Nat) ≤ 100; omega) hz.1 hz.2).trans (by unfold outR; rw [hv]; rfl)
theorem rput6 {a : Int} (a0 : 0 ≤ a ∧ a ≤ 1125899906842624) {r : List Int} (hr : isB r) (hl : r.length ≤ 1000) (hv : validE ⟨6, a, ⟨#[]⟩, 0, 0, z32⟩ = true) : ref05_Get (strOfNums (putE ⟨6, a, ⟨#[]⟩, 0, 0, z32⟩ ++ r)) = some (⟨6, a, ⟨#[]⟩, 0, 0, z32⟩, strOfNums r, true) := by
  have hz := z32_ok
  have hp : putE ⟨6, a, ⟨#[]⟩, 0, 0, z32⟩ ++ r = numL (clampN 6) ++ (numL (clampN a) ++ r) := by simp [putE, partsE, bytD]
  have h8 : ¬ (6 : Int) > 7 := by omega
  have h := rnum (a := 6) (by omega) (by omega) (isB_app (numL_isB (clampN a)) hr)
  have q0 := rnum a0.1 a0.2 hr
  rw [hp]; unfold ref05_Get; rw [h]
  simp only [Option.bind_some, Bool.not_true, Bool.not_false, Bool.false_eq_true, if_false, if_true, h8, decide_false, tells_eq, tl6, gtB0, gtB1, gtB2, gtB3, gtB4, q0]
  exact (fin_out ⟨6, a, ⟨#[]⟩, 0, 0, z32⟩ r (by show (0 : Nat) ≤ 100; omega) hz.1 hz.2).trans (by unfold outR; rw [hv]; rfl)
theorem rput7 {a : Int} (a0 : 0 ≤ a ∧ a ≤ 1125899906842624) {r : List Int} (hr : isB r) (hl : r.length ≤ 1000) (hv : validE ⟨7, 0, ⟨#[]⟩, a, 0, z32⟩ = true) : ref05_Get (strOfNums (putE ⟨7, 0, ⟨#[]⟩, a, 0, z32⟩ ++ r)) = some (⟨7, 0, ⟨#[]⟩, a, 0, z32⟩, strOfNums r, true) := by
  have hz := z32_ok
  have hp : putE ⟨7, 0, ⟨#[]⟩, a, 0, z32⟩ ++ r = numL (clampN 7) ++ (numL (clampN a) ++ r) := by simp [putE, partsE, bytD]
  have h8 : ¬ (7 : Int) > 7 := by omega
  have h := rnum (a := 7) (by omega) (by omega) (isB_app (numL_isB (clampN a)) hr)
  have q0 := rnum a0.1 a0.2 hr
  rw [hp]; unfold ref05_Get; rw [h]
  simp only [Option.bind_some, Bool.not_true, Bool.not_false, Bool.false_eq_true, if_false, if_true, h8, decide_false, tells_eq, tl7, gtB0, gtB1, gtB2, gtB3, gtB4, q0]
  exact (fin_out ⟨7, 0, ⟨#[]⟩, a, 0, z32⟩ r (by show (0 : Nat) ≤ 100; omega) hz.1 hz.2).trans (by unfold outR; rw [hv]; rfl)
theorem rGet_put {e : ApiEvent} (h : okE e) (hN : e.Name.size ≤ 100) (hv : validE e = true) {r : List Int} (hr : isB r) (hl : r.length ≤ 1000) : ref05_Get (strOfNums (putE e ++ r)) = some (e, strOfNums r, true) := by
  obtain ⟨f1, f2, f3⟩ := valid_form h hv
  obtain ⟨n1, n2, n3⟩ := valid_nums h hv
  obtain ⟨k, i, nm, t, l, s⟩ := e
  simp only at n1 n2 n3 hN
  have hs : s.length = 32 ∧ isB s := h.2
  rcases kinds k with q | q | q | q | q | q | q | q | ⟨k0, k4, k5, k1, k2, k3, k6, k7⟩
  case inr.inr.inr.inr.inr.inr.inr.inr => simp [validE, k0, k1, k2, k3, k4, k5, k6, k7] at hv
  all_goals subst q
  · have : (⟨0, i, nm, 0, 0, z32⟩ : ApiEvent) = ⟨0, i, nm, t, l, s⟩ := f2
    rw [← this] at hv ⊢; exact rput0 (by omega) hN hr hl hv
  · have : (⟨4, i, nm, 0, 0, z32⟩ : ApiEvent) = ⟨4, i, nm, t, l, s⟩ := f2
    rw [← this] at hv ⊢; exact rput4 (by omega) hN hr hl hv
  · have : (⟨5, i, nm, 0, 0, z32⟩ : ApiEvent) = ⟨5, i, nm, t, l, s⟩ := f2
    rw [← this] at hv ⊢; exact rput5 (by omega) hN hr hl hv
  · have : (⟨1, i, ⟨#[]⟩, 0, l, z32⟩ : ApiEvent) = ⟨1, i, nm, t, l, s⟩ := f2
    rw [← this] at hv ⊢; exact rput1 (by omega) (by omega) hr hl hv
  · have : (⟨2, i, ⟨#[]⟩, t, l, s⟩ : ApiEvent) = ⟨2, i, nm, t, l, s⟩ := f2
    rw [← this] at hv ⊢; exact rput2 (by omega) (by omega) (by omega) hs.1 hs.2 hr hl hv
  · have : (⟨3, i, ⟨#[]⟩, t, 0, z32⟩ : ApiEvent) = ⟨3, i, nm, t, l, s⟩ := f2
    rw [← this] at hv ⊢; exact rput3 (by omega) (by omega) hr hl hv
  · have : (⟨6, i, ⟨#[]⟩, 0, 0, z32⟩ : ApiEvent) = ⟨6, i, nm, t, l, s⟩ := f2
    rw [← this] at hv ⊢; exact rput6 (by omega) hr hl hv
  · have : (⟨7, 0, ⟨#[]⟩, t, 0, z32⟩ : ApiEvent) = ⟨7, i, nm, t, l, s⟩ := f2
    rw [← this] at hv ⊢; exact rput7 (by omega) hr hl hv
theorem law05_EventGets_eq (s : ByteArray) : law05_EventGets s = some true := by
  unfold law05_EventGets
  simp only [works05, Option.bind_some, Bool.not_true, Bool.false_eq_true, if_false]
  by_cases hm : (s.size : Int) > 300
  · simp [hm]
  obtain ⟨xs, hx, rfl, hlen⟩ := str_of s
  have key : event_Get (strOfNums xs) = ref05_Get (strOfNums xs) := by
    rcases Get_any hx (by omega) with p | ⟨e, r, a1, a2, a3, a4, a5, p⟩
    · rcases rGet_any hx (by omega) with q | ⟨e, r, a1, a2, a3, a4, a5, q⟩
      · rw [p, q]
      · have := Get_put a1 a2 a3 a4
        rw [← a5, p] at this; simp at this
    · have hl : r.length ≤ 1000 := by have := congrArg List.length a5; rw [List.length_append] at this; omega
      have q := rGet_put a1 a2 a3 a4 hl
      rw [← a5] at q; rw [p, q]
  have tot : ∃ e r b, ref05_Get (strOfNums xs) = some (e, r, b) := by
    rcases rGet_any hx (by omega) with q | ⟨e, r, a1, a2, a3, a4, a5, q⟩
    · exact ⟨_, _, _, q⟩
    · exact ⟨_, _, _, q⟩
  obtain ⟨e, r, b, q⟩ := tot
  simp only [hm, decide_false, Bool.false_eq_true, if_false, key, q, Option.bind_some, event_eta, seq_refl, if_true, beq_self_eq_true]
end Go.Cen
