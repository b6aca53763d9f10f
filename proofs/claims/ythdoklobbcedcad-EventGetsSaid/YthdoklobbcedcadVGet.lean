/- EVENT: what is got from any bytes. -/
import Derived.Test.YthdoklobbcedcadVEvL
set_option linter.unusedVariables false
set_option linter.unusedSimpArgs false
set_option maxRecDepth 100000
namespace Go.Cen
def isT (d : Dyn46) : Prop := d ≠ .nil ∧ tmplD d = d
theorem wire_num_cases {xs : List Int} (hx : isB xs) : wire_GetNum (strOfNums xs) = some (0, ⟨#[]⟩, false) ∨ ∃ (n : Int) (r : List Int), 0 ≤ n ∧ n ≤ 1125899906842624 ∧ isB r ∧ xs = numL (clampN n) ++ r ∧ wire_GetNum (strOfNums xs) = some (n, strOfNums r, true) := by
  rw [wire_GetNum_eq _ hx]
  unfold getR
  cases h : getN xs with
  | none => left; rfl
  | some p =>
    obtain ⟨n, r⟩ := p
    obtain ⟨h1, h2⟩ := getN_inv hx h
    right
    have hc : clampN (n : Int) = n := by have := clampN_id (a := (n : Int)) (by omega) (by omega); omega
    refine ⟨(n : Int), r, by omega, by omega, ?_, by rw [hc]; exact h1, rfl⟩
    intro y hy; exact hx y (by rw [h1]; simp [hy])
theorem text_cases {xs : List Int} (hx : isB xs) (hn : xs.length ≤ 1000000) : (∃ a b, wire_GetText (strOfNums xs) 100 = some (a, b, false)) ∨ ∃ (s : ByteArray) (r : List Int), s.size ≤ 100 ∧ isB r ∧ xs = (numL (clampN (s.size : Int)) ++ byts s) ++ r ∧ wire_GetText (strOfNums xs) 100 = some (s, strOfNums r, true) := by
  rcases wire_num_cases hx with h | ⟨n, r, h0, h1, hr, he, h⟩
  · left; unfold wire_GetText wire_text; rw [h]; exact ⟨_, _, rfl⟩
  · by_cases c : n > (if (100 : Int) < (r.length : Int) then 100 else (r.length : Int))
    · left; unfold wire_GetText wire_text; rw [h]
      simp only [Option.bind_some, Bool.not_true, Bool.false_eq_true, if_false, strOfNums_size, c, decide_true, if_true]
      exact ⟨_, _, rfl⟩
    · right
      have hn1 : n ≤ 100 := by split at c <;> omega
      have hn2 : n ≤ (r.length : Int) := by split at c <;> omega
      obtain ⟨m, rfl⟩ : ∃ m : Nat, n = (m : Int) := ⟨n.toNat, by omega⟩
      have hB1 : isB (r.take m) := isB_take hr m
      have hb : byts (strOfNums (r.take m)) = r.take m := byts_strOfNums hB1
      have hsz : (strOfNums (r.take m)).size = m := by rw [strOfNums_size, List.length_take]; omega
      have e : xs = (numL (clampN ((strOfNums (r.take m)).size : Int)) ++ byts (strOfNums (r.take m))) ++ r.drop m := by rw [hsz, hb, List.append_assoc, List.take_append_drop]; exact he
      refine ⟨strOfNums (r.take m), r.drop m, by omega, isB_drop hr m, e, ?_⟩
      have := gtext (s := strOfNums (r.take m)) (by omega) (isB_drop hr m)
      rw [← e] at this
      exact this
theorem sum_cases {xs : List Int} (hx : isB xs) : (∃ a b, wire_GetSum (strOfNums xs) = some (a, b, false)) ∨ ∃ (d r : List Int), d.length = 32 ∧ isB d ∧ isB r ∧ xs = d ++ r ∧ wire_GetSum (strOfNums xs) = some (d, strOfNums r, true) := by
  by_cases c : xs.length < 32
  · left; unfold wire_GetSum
    have : ((strOfNums xs).size : Int) < 32 := by rw [strOfNums_size]; omega
    simp only [this, decide_true, if_true]
    exact ⟨_, _, rfl⟩
  · right
    have e : xs = xs.take 32 ++ xs.drop 32 := (List.take_append_drop 32 xs).symm
    have hl : (xs.take 32).length = 32 := by rw [List.length_take]; omega
    refine ⟨xs.take 32, xs.drop 32, hl, isB_take hx 32, isB_drop hx 32, e, ?_⟩
    have := gsum hl (isB_take hx 32) (isB_drop hx 32)
    rw [← e] at this
    exact this
theorem get_cases {d : Dyn46} (hd : isT d) {xs : List Int} (hx : isB xs) (hn : xs.length ≤ 1000000) : (∃ a b, event_get d (strOfNums xs) = some (a, b, false)) ∨ ∃ (v : Dyn46) (r : List Int), goodD v ∧ tmplD v = d ∧ isB r ∧ xs = bytD v ++ r ∧ event_get d (strOfNums xs) = some (v, strOfNums r, true) := by
  cases d with
  | nil => exact absurd rfl hd.1
  | i68 x =>
    rcases wire_num_cases hx with h | ⟨n, r, h0, h1, hr, he, h⟩
    · left; simp only [event_get, Option.bind_some, h]; exact ⟨_, _, rfl⟩
    · right; exact ⟨.i68 n, r, ⟨h0, h1⟩, by rw [← hd.2]; rfl, hr, he, by simp only [event_get, Option.bind_some, h]⟩
  | i53 s =>
    rcases text_cases hx hn with ⟨a, b, h⟩ | ⟨s', r, h1, hr, he, h⟩
    · left; simp only [event_get, Option.bind_some, h]; exact ⟨_, _, rfl⟩
    · right; exact ⟨.i53 s', r, h1, by rw [← hd.2]; rfl, hr, he, by simp only [event_get, Option.bind_some, h]⟩
  | i71 z =>
    have hz : z.length = 32 := by have := hd.2; simp only [tmplD, Dyn46.i71.injEq] at this; rw [← this]; simp [z32]
    rcases sum_cases hx with ⟨a, b, h⟩ | ⟨d', r, h1, h2, hr, he, h⟩
    · left; simp only [event_get, hz, if_true, Option.bind_some, h]; exact ⟨_, _, rfl⟩
    · right; exact ⟨.i71 d', r, ⟨h1, h2⟩, by rw [← hd.2]; rfl, hr, he, by simp only [event_get, hz, if_true, Option.bind_some, h]⟩
abbrev evZ : ApiEvent := ⟨0, 0, ⟨#[]⟩, 0, 0, z32⟩
theorem Get_any_l0 (T : List Dyn46) (hT : T.length ≤ 1000) : ∀ (todo done : List Dyn46) (k : Nat) (xs : List Int), (∀ d ∈ todo, isT d) → isB xs → xs.length ≤ 1000000 → done.length + todo.length = T.length → todo.length < k →
    event_Get.l0 T k (strOfNums xs) (done ++ todo) (done.length : Int) = some (.inl (evZ, ⟨#[]⟩, false)) ∨
    ∃ (vals : List Dyn46) (r : List Int), vals.map tmplD = todo ∧ (∀ d ∈ vals, goodD d) ∧ isB r ∧ xs = vals.flatMap bytD ++ r ∧ event_Get.l0 T k (strOfNums xs) (done ++ todo) (done.length : Int) = some (.inr (strOfNums r, done ++ vals))
  | [], done, k, xs, _, hx, hn, h2, h4 => by
    obtain ⟨k, rfl⟩ : ∃ m, k = m + 1 := ⟨k - 1, by omega⟩
    have hd : decide ((done.length : Int) < (T.length : Int)) = false := by simp at h2 ⊢; omega
    right
    exact ⟨[], xs, rfl, (fun d h => nomatch h), hx, rfl, (by simp only [event_Get.l0, hd, Bool.false_eq_true, if_false])⟩
  | d :: t, done, k, xs, h1, hx, hn, h2, h4 => by
    obtain ⟨k, rfl⟩ : ∃ m, k = m + 1 := ⟨k - 1, by omega⟩
    simp only [List.length_cons] at h2 h4
    have hd : decide ((done.length : Int) < (T.length : Int)) = true := by simp; omega
    have hl : (0 : Int) ≤ (done.length : Int) ∧ (done.length : Int) < ((done ++ d :: t).length : Int) := by simp only [List.length_append, List.length_cons]; omega
    rcases get_cases (h1 d (by simp)) hx hn with ⟨a, b, h⟩ | ⟨v, r, g1, g2, hr, he, h⟩
    · left
      simp only [event_Get.l0, hd, if_true, hl, and_self, gt_mid, h, Option.bind_some, Bool.not_false]
      rfl
    · have hw : wi64 ((done.length : Int) + 1) = (((done ++ [v]).length : Nat) : Int) := by rw [wi64_id (by omega)]; simp
      have hrl : r.length ≤ 1000000 := by have := congrArg List.length he; rw [List.length_append] at this; omega
      have key : event_Get.l0 T (k + 1) (strOfNums xs) (done ++ d :: t) (done.length : Int) = event_Get.l0 T k (strOfNums r) ((done ++ [v]) ++ t) (((done ++ [v]).length : Nat) : Int) := by
        simp only [event_Get.l0, hd, if_true, hl, and_self, gt_mid, h, Option.bind_some, Bool.not_true, Bool.false_eq_true, if_false]
        rw [set_mid, hw]
      rw [key]
      rcases Get_any_l0 T hT t (done ++ [v]) k r (fun x hx => h1 x (by simp [hx])) hr hrl (by simp only [List.length_append, List.length_cons, List.length_nil]; omega) (by omega) with q | ⟨vals, r', q1, q2, q3, q4, q5⟩
      · left; exact q
      · right
        refine ⟨v :: vals, r', by simp [q1, g2], ?_, q3, by rw [he, q4]; simp, by rw [q5]; simp⟩
        intro x hx
        rcases List.mem_cons.1 hx with e | e
        · rw [e]; exact g1
        · exact q2 x e
theorem tm68 {v : Dyn46} {x : Int} (h : tmplD v = .i68 x) : ∃ a, v = .i68 a := by cases v <;> simp [tmplD] at h ⊢
theorem tm53 {v : Dyn46} {x : ByteArray} (h : tmplD v = .i53 x) : ∃ a, v = .i53 a := by cases v <;> simp [tmplD] at h ⊢
theorem tm71 {v : Dyn46} {x : List Int} (h : tmplD v = .i71 x) : ∃ a, v = .i71 a := by cases v <;> simp [tmplD] at h ⊢
theorem map_cons' {vals t : List Dyn46} {f : Dyn46} (h : vals.map tmplD = f :: t) : ∃ v r, vals = v :: r ∧ tmplD v = f ∧ r.map tmplD = t := by
  cases vals with
  | nil => cases h
  | cons v r => simp only [List.map_cons, List.cons.injEq] at h; exact ⟨v, r, rfl, h.1, h.2⟩
theorem map_nil' {vals : List Dyn46} (h : vals.map tmplD = []) : vals = [] := by simpa using h
theorem z32_ok : z32.length = 32 ∧ isB z32 := ⟨by simp [z32], fun x hx => by rw [List.eq_of_mem_replicate hx]; omega⟩
theorem ev_of {n : Int} {vals : List Dyn46} (hn : 0 ≤ n ∧ n < 8) (h : vals.map tmplD = partsE ⟨n, 0, ⟨#[]⟩, 0, 0, z32⟩) (hg : ∀ d ∈ vals, goodD d) : ∃ e : ApiEvent, e.Kind = n ∧ partsE e = vals ∧ ofE e = e ∧ okE e ∧ e.Name.size ≤ 100 := by
  have hz := z32_ok
  have h0 : (⟨#[]⟩ : ByteArray).size = 0 := rfl
  rcases kinds n with k | k | k | k | k | k | k | k | ⟨k0, k4, k5, k1, k2, k3, k6, k7⟩
  case inr.inr.inr.inr.inr.inr.inr.inr => omega
  all_goals subst k
  all_goals simp [partsE] at h
  · obtain ⟨v, r, rfl, e1, h⟩ := map_cons' h
    obtain ⟨w, r, rfl, e2, h⟩ := map_cons' h
    obtain rfl := map_nil' h
    obtain ⟨a, rfl⟩ := tm68 e1; obtain ⟨s, rfl⟩ := tm53 e2
    have hs : s.size ≤ 100 := hg (.i53 s) (by simp)
    exact ⟨⟨0, a, s, 0, 0, z32⟩, rfl, rfl, rfl, ⟨by show s.size ≤ _; omega, hz⟩, hs⟩
  · obtain ⟨v, r, rfl, e1, h⟩ := map_cons' h
    obtain ⟨w, r, rfl, e2, h⟩ := map_cons' h
    obtain rfl := map_nil' h
    obtain ⟨a, rfl⟩ := tm68 e1; obtain ⟨s, rfl⟩ := tm53 e2
    have hs : s.size ≤ 100 := hg (.i53 s) (by simp)
    exact ⟨⟨4, a, s, 0, 0, z32⟩, rfl, rfl, rfl, ⟨by show s.size ≤ _; omega, hz⟩, hs⟩
  · obtain ⟨v, r, rfl, e1, h⟩ := map_cons' h
    obtain ⟨w, r, rfl, e2, h⟩ := map_cons' h
    obtain rfl := map_nil' h
    obtain ⟨a, rfl⟩ := tm68 e1; obtain ⟨s, rfl⟩ := tm53 e2
    have hs : s.size ≤ 100 := hg (.i53 s) (by simp)
    exact ⟨⟨5, a, s, 0, 0, z32⟩, rfl, rfl, rfl, ⟨by show s.size ≤ _; omega, hz⟩, hs⟩
  · obtain ⟨v, r, rfl, e1, h⟩ := map_cons' h
    obtain ⟨w, r, rfl, e2, h⟩ := map_cons' h
    obtain rfl := map_nil' h
    obtain ⟨a, rfl⟩ := tm68 e1; obtain ⟨b, rfl⟩ := tm68 e2
    exact ⟨⟨1, a, ⟨#[]⟩, 0, b, z32⟩, rfl, rfl, rfl, ⟨by show (0 : Nat) ≤ _; omega, hz⟩, by show (0 : Nat) ≤ _; omega⟩
  · obtain ⟨v, r, rfl, e1, h⟩ := map_cons' h
    obtain ⟨w, r, rfl, e2, h⟩ := map_cons' h
    obtain ⟨x, r, rfl, e3, h⟩ := map_cons' h
    obtain ⟨y, r, rfl, e4, h⟩ := map_cons' h
    obtain rfl := map_nil' h
    obtain ⟨a, rfl⟩ := tm68 e1; obtain ⟨b, rfl⟩ := tm68 e2; obtain ⟨c, rfl⟩ := tm68 e3; obtain ⟨d, rfl⟩ := tm71 e4
    have hd : d.length = 32 ∧ isB d := hg (.i71 d) (by simp)
    exact ⟨⟨2, a, ⟨#[]⟩, b, c, d⟩, rfl, rfl, rfl, ⟨by show (0 : Nat) ≤ _; omega, hd⟩, by show (0 : Nat) ≤ _; omega⟩
  · obtain ⟨v, r, rfl, e1, h⟩ := map_cons' h
    obtain ⟨w, r, rfl, e2, h⟩ := map_cons' h
    obtain rfl := map_nil' h
    obtain ⟨a, rfl⟩ := tm68 e1; obtain ⟨b, rfl⟩ := tm68 e2
    exact ⟨⟨3, a, ⟨#[]⟩, b, 0, z32⟩, rfl, rfl, rfl, ⟨by show (0 : Nat) ≤ _; omega, hz⟩, by show (0 : Nat) ≤ _; omega⟩
  · obtain ⟨v, rfl, e1⟩ := h
    obtain ⟨a, rfl⟩ := tm68 e1
    exact ⟨⟨6, a, ⟨#[]⟩, 0, 0, z32⟩, rfl, rfl, rfl, ⟨by show (0 : Nat) ≤ _; omega, hz⟩, by show (0 : Nat) ≤ _; omega⟩
  · obtain ⟨v, rfl, e1⟩ := h
    obtain ⟨a, rfl⟩ := tm68 e1
    exact ⟨⟨7, 0, ⟨#[]⟩, a, 0, z32⟩, rfl, rfl, rfl, ⟨by show (0 : Nat) ≤ _; omega, hz⟩, by show (0 : Nat) ≤ _; omega⟩
theorem parts_isT {n : Int} : ∀ d ∈ partsE ⟨n, 0, ⟨#[]⟩, 0, 0, z32⟩, isT d := by
  intro d hd
  unfold partsE at hd
  repeat' split at hd
  all_goals simp at hd
  all_goals (try (rcases hd with rfl | rfl | rfl | rfl) <;> exact ⟨by simp, rfl⟩)
  all_goals (try (rcases hd with rfl | rfl) <;> exact ⟨by simp, rfl⟩)
  all_goals (try (subst hd; exact ⟨by simp, rfl⟩))
theorem Get_any {xs : List Int} (hx : isB xs) (hn : xs.length ≤ 1000000) : event_Get (strOfNums xs) = some (evZ, ⟨#[]⟩, false) ∨ ∃ (e : ApiEvent) (r : List Int), okE e ∧ e.Name.size ≤ 100 ∧ validE e = true ∧ isB r ∧ xs = putE e ++ r ∧ event_Get (strOfNums xs) = some (e, strOfNums r, true) := by
  have hF : FU = 4611686018427387904 := rfl
  rcases wire_num_cases hx with h | ⟨n, r, h0, h1, hr, he, h⟩
  · left; unfold event_Get; rw [h]; rfl
  · by_cases h8 : n ≥ 8
    · left; unfold event_Get; rw [h]
      simp only [Option.bind_some, Bool.not_true, Bool.false_eq_true, if_false, event_words, h8, decide_true, if_true]
      rfl
    · have hrl : r.length ≤ 1000000 := by have := congrArg List.length he; rw [List.length_append] at this; omega
      have hpe : event_parts (ApiEvent.mk n 0 (⟨#[]⟩ : ByteArray) 0 0 (List.replicate 32 (0 : Int))) = some (partsE ⟨n, 0, ⟨#[]⟩, 0, 0, z32⟩) := parts_eq _
      have hl := parts_len ⟨n, 0, ⟨#[]⟩, 0, 0, z32⟩
      rcases Get_any_l0 (partsE ⟨n, 0, ⟨#[]⟩, 0, 0, z32⟩) (by omega) (partsE ⟨n, 0, ⟨#[]⟩, 0, 0, z32⟩) [] FU r parts_isT hr hrl (by simp) (by omega) with q | ⟨vals, r', q1, q2, q3, q4, q5⟩
      · left
        have q' : event_Get.l0 (partsE ⟨n, 0, ⟨#[]⟩, 0, 0, z32⟩) FU (strOfNums r) (partsE ⟨n, 0, ⟨#[]⟩, 0, 0, z32⟩) 0 = some (.inl (evZ, ⟨#[]⟩, false)) := q
        unfold event_Get; rw [h]
        simp only [Option.bind_some, Bool.not_true, Bool.false_eq_true, if_false, event_words, h8, decide_false, hpe, q']
      · obtain ⟨e, k1, k2, k3, k4, k5⟩ := ev_of ⟨h0, by omega⟩ q1 q2
        have q' : event_Get.l0 (partsE ⟨n, 0, ⟨#[]⟩, 0, 0, z32⟩) FU (strOfNums r) (partsE ⟨n, 0, ⟨#[]⟩, 0, 0, z32⟩) 0 = some (.inr (strOfNums r', vals)) := q5
        have hne : partsE e ≠ [] := by
          intro q
          rw [k2] at q
          rw [q] at q1
          have hh : partsE ⟨n, 0, ⟨#[]⟩, 0, 0, z32⟩ = [] := q1.symm
          unfold partsE at hh
          simp only at hh
          rcases kinds n with k | k | k | k | k | k | k | k | ⟨z0, z4, z5, z1, z2, z3, z6, z7⟩
          case inr.inr.inr.inr.inr.inr.inr.inr => omega
          all_goals simp [k] at hh
        have ho := of_eq k4 hne
        rw [k3, k1, k2] at ho
        have hv := event_Valid_eq k4
        cases hve : validE e with
        | false =>
          left
          rw [hve] at hv
          unfold event_Get; rw [h]
          simp only [Option.bind_some, Bool.not_true, Bool.false_eq_true, if_false, event_words, h8, decide_false, hpe, q', ho, hv, Bool.not_false, if_true]
          rfl
        | true =>
          right
          rw [hve] at hv
          refine ⟨e, r', k4, k5, hve, q3, ?_, ?_⟩
          · unfold putE; rw [k1, k2, he, q4, List.append_assoc]
          · unfold event_Get; rw [h]
            simp only [Option.bind_some, Bool.not_true, Bool.false_eq_true, if_false, event_words, h8, decide_false, hpe, q', ho, hv]
theorem str_of (s : ByteArray) : ∃ xs, isB xs ∧ s = strOfNums xs ∧ xs.length = s.size := ⟨byts s, byts_isB s, (strOfNums_byts s).symm, byts_len s⟩
end Go.Cen
