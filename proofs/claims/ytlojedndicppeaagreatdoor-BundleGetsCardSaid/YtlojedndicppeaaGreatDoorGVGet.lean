/- EVENT: what is got from any bytes. -/
import Derived.Test.YtlojedndicppeaaGreatDoorGEvA
import Derived.Test.YtlojedndicppeaaGreatDoorPx
import Derived.Test.YtlojedndicppeaaGreatDoorCenPl
import Derived.Test.YtlojedndicppeaaGreatDoorGUtf8A
set_option linter.unusedVariables false
set_option linter.unusedSimpArgs false
set_option maxRecDepth 100000
namespace Go.Cen
def isT (d : Dyn88) : Prop := d ≠ .nil ∧ tmplD d = d
theorem wire_num_cases {xs : List Int} (hx : isB xs) : wire_GetNum (strOfNums xs) = some (0, ⟨#[]⟩, false) ∨ ∃ (n : Int) (r : List Int), 0 ≤ n ∧ n ≤ 1125899906842624 ∧ isB r ∧ xs = numL (clampN n) ++ r ∧ wire_GetNum (strOfNums xs) = some (n, strOfNums r, true) := by
  rw [wire_GetNum_eq _ hx]
  unfold getR
  cases h : getN xs with
  | none => left; rfl
  | some p =>
    obtain ⟨n, r⟩ := p
    obtain ⟨h1, h2⟩ := getN_inv hx h
    right
    have hc : clampN (n : Int) = n := by have := clampN_id (a := (n : Int)) (by omega) (by omega); omega
    refine ⟨(n : Int), r, by omega, by omega, ?_, by rw [hc]; exact h1, rfl⟩
    intro y hy; exact hx y (by rw [h1]; simp [hy])
theorem text_cases {xs : List Int} (hx : isB xs) (hn : xs.length ≤ 1000000) : (∃ a b, wire_GetText (strOfNums xs) 100 = some (a, b, false)) ∨ ∃ (s : ByteArray) (r : List Int), s.size ≤ 100 ∧ isB r ∧ xs = (numL (clampN (s.size : Int)) ++ byts s) ++ r ∧ wire_GetText (strOfNums xs) 100 = some (s, strOfNums r, true) := by
  rcases wire_num_cases hx with h | ⟨n, r, h0, h1, hr, he, h⟩
  · left; unfold wire_GetText wire_text; rw [h]; exact ⟨_, _, rfl⟩
  · by_cases c : n > (if (100 : Int) < (r.length : Int) then 100 else (r.length : Int))
    · left; unfold wire_GetText wire_text; rw [h]
      simp only [Option.bind_some, Bool.not_true, Bool.false_eq_true, if_false, strOfNums_size, c, decide_true, if_true]
      exact ⟨_, _, rfl⟩
    · right
      have hn1 : n ≤ 100 := by split at c <;> omega
      have hn2 : n ≤ (r.length : Int) := by split at c <;> omega
      obtain ⟨m, rfl⟩ : ∃ m : Nat, n = (m : Int) := ⟨n.toNat, by omega⟩
      have hB1 : isB (r.take m) := isB_take hr m
      have hb : byts (strOfNums (r.take m)) = r.take m := byts_strOfNums hB1
      have hsz : (strOfNums (r.take m)).size = m := by rw [strOfNums_size, List.length_take]; omega
      have e : xs = (numL (clampN ((strOfNums (r.take m)).size : Int)) ++ byts (strOfNums (r.take m))) ++ r.drop m := by rw [hsz, hb, List.append_assoc, List.take_append_drop]; exact he
      refine ⟨strOfNums (r.take m), r.drop m, by omega, isB_drop hr m, e, ?_⟩
      have := gtext (s := strOfNums (r.take m)) (by omega) (isB_drop hr m)
      rw [← e] at this
      exact this
theorem sum_cases {xs : List Int} (hx : isB xs) : (∃ a b, wire_GetSum (strOfNums xs) = some (a, b, false)) ∨ ∃ (d r : List Int), d.length = 32 ∧ isB d ∧ isB r ∧ xs = d ++ r ∧ wire_GetSum (strOfNums xs) = some (d, strOfNums r, true) := by
  by_cases c : xs.length < 32
  · left; unfold wire_GetSum
    have : ((strOfNums xs).size : Int) < 32 := by rw [strOfNums_size]; omega
    simp only [this, decide_true, if_true]
    exact ⟨_, _, rfl⟩
  · right
    have e : xs = xs.take 32 ++ xs.drop 32 := (List.take_append_drop 32 xs).symm
    have hl : (xs.take 32).length = 32 := by rw [List.length_take]; omega
    refine ⟨xs.take 32, xs.drop 32, hl, isB_take hx 32, isB_drop hx 32, e, ?_⟩
    have := gsum hl (isB_take hx 32) (isB_drop hx 32)
    rw [← e] at this
    exact this
theorem get_cases {d : Dyn88} (hd : isT d) {xs : List Int} (hx : isB xs) (hn : xs.length ≤ 1000000) : (∃ a b, event_get d (strOfNums xs) = some (a, b, false)) ∨ ∃ (v : Dyn88) (r : List Int), goodD v ∧ tmplD v = d ∧ isB r ∧ xs = bytD v ++ r ∧ event_get d (strOfNums xs) = some (v, strOfNums r, true) := by
  cases d with
  | nil => exact absurd rfl hd.1
  | i111 x =>
    rcases wire_num_cases hx with h | ⟨n, r, h0, h1, hr, he, h⟩
    · left; simp only [event_get, Option.bind_some, h]; exact ⟨_, _, rfl⟩
    · right; exact ⟨.i111 n, r, ⟨h0, h1⟩, by rw [← hd.2]; rfl, hr, he, by simp only [event_get, Option.bind_some, h]⟩
  | i108 s =>
    rcases text_cases hx hn with ⟨a, b, h⟩ | ⟨s', r, h1, hr, he, h⟩
    · left; simp only [event_get, Option.bind_some, h]; exact ⟨_, _, rfl⟩
    · right; exact ⟨.i108 s', r, h1, by rw [← hd.2]; rfl, hr, he, by simp only [event_get, Option.bind_some, h]⟩
  | i112 z =>
    have hz : z.length = 32 := by have := hd.2; simp only [tmplD, Dyn88.i112.injEq] at this; rw [← this]; simp [z32]
    rcases sum_cases hx with ⟨a, b, h⟩ | ⟨d', r, h1, h2, hr, he, h⟩
    · left; simp only [event_get, hz, if_true, Option.bind_some, h]; exact ⟨_, _, rfl⟩
    · right; exact ⟨.i112 d', r, ⟨h1, h2⟩, by rw [← hd.2]; rfl, hr, he, by simp only [event_get, hz, if_true, Option.bind_some, h]⟩
abbrev evZ : ApiEvent := ⟨0, 0, ⟨#[]⟩, 0, 0, z32⟩
theorem Get_any_l0 (T : List Dyn88) (hT : T.length ≤ 1000) : ∀ (todo done : List Dyn88) (k : Nat) (xs : List Int), (∀ d ∈ todo, isT d) → isB xs → xs.length ≤ 1000000 → done.length + todo.length = T.length → todo.length < k →
    event_Get.l0 T k (strOfNums xs) (done ++ todo) (done.length : Int) = some (.inl (evZ, ⟨#[]⟩, false)) ∨
    ∃ (vals : List Dyn88) (r : List Int), vals.map tmplD = todo ∧ (∀ d ∈ vals, goodD d) ∧ isB r ∧ xs = vals.flatMap bytD ++ r ∧ event_Get.l0 T k (strOfNums xs) (done ++ todo) (done.length : Int) = some (.inr (strOfNums r, done ++ vals))
  | [], done, k, xs, _, hx, hn, h2, h4 => by
    obtain ⟨k, rfl⟩ : ∃ m, k = m + 1 := ⟨k - 1, by omega⟩
    have hd : decide ((done.length : Int) < (T.length : Int)) = false := by simp at h2 ⊢; omega
    right
    exact ⟨[], xs, rfl, (fun d h => nomatch h), hx, rfl, (by simp only [event_Get.l0, hd, Bool.false_eq_true, if_false])⟩
  | d :: t, done, k, xs, h1, hx, hn, h2, h4 => by
    obtain ⟨k, rfl⟩ : ∃ m, k = m + 1 := ⟨k - 1, by omega⟩
    simp only [List.length_cons] at h2 h4
    have hd : decide ((done.length : Int) < (T.length : Int)) = true := by simp; omega
    have hl : (0 : Int) ≤ (done.length : Int) ∧ (done.length : Int) < ((done ++ d :: t).length : Int) := by simp only [List.length_append, List.length_cons]; omega
    rcases get_cases (h1 d (by simp)) hx hn with ⟨a, b, h⟩ | ⟨v, r, g1, g2, hr, he, h⟩
    · left
      simp only [event_Get.l0, hd, if_true, hl, and_self, gt_mid, h, Option.bind_some, Bool.not_false]
      rfl
    · have hw : wi64 ((done.length : Int) + 1) = (((done ++ [v]).length : Nat) : Int) := by rw [wi64_id (by omega)]; simp
      have hrl : r.length ≤ 1000000 := by have := congrArg List.length he; rw [List.length_append] at this; omega
      have key : event_Get.l0 T (k + 1) (strOfNums xs) (done ++ d :: t) (done.length : Int) = event_Get.l0 T k (strOfNums r) ((done ++ [v]) ++ t) (((done ++ [v]).length : Nat) : Int) := by
        simp only [event_Get.l0, hd, if_true, hl, and_self, gt_mid, h, Option.bind_some, Bool.not_true, Bool.false_eq_true, if_false]
        rw [set_mid, hw]
      rw [key]
      rcases Get_any_l0 T hT t (done ++ [v]) k r (fun x hx => h1 x (by simp [hx])) hr hrl (by simp only [List.length_append, List.length_cons, List.length_nil]; omega) (by omega) with q | ⟨vals, r', q1, q2, q3, q4, q5⟩
      · left; exact q
      · right
        refine ⟨v :: vals, r', by simp [q1, g2], ?_, q3, by rw [he, q4]; simp, by rw [q5]; simp⟩
        intro x hx
        rcases List.mem_cons.1 hx with e | e
        · rw [e]; exact g1
        · exact q2 x e
theorem tm68 {v : Dyn88} {x : Int} (h : tmplD v = .i111 x) : ∃ a, v = .i111 a := by cases v <;> simp [tmplD] at h ⊢
theorem tm53 {v : Dyn88} {x : ByteArray} (h : tmplD v = .i108 x) : ∃ a, v = .i108 a := by cases v <;> simp [tmplD] at h ⊢
theorem tm71 {v : Dyn88} {x : List Int} (h : tmplD v = .i112 x) : ∃ a, v = .i112 a := by cases v <;> simp [tmplD] at h ⊢
theorem map_cons' {vals t : List Dyn88} {f : Dyn88} (h : vals.map tmplD = f :: t) : ∃ v r, vals = v :: r ∧ tmplD v = f ∧ r.map tmplD = t := by
  cases vals with
  | nil => cases h
  | cons v r => simp only [List.map_cons, List.cons.injEq] at h; exact ⟨v, r, rfl, h.1, h.2⟩
theorem map_nil' {vals : List Dyn88} (h : vals.map tmplD = []) : vals = [] := by simpa using h
theorem z32_ok : z32.length = 32 ∧ isB z32 := ⟨by simp [z32], fun x hx => by rw [List.eq_of_mem_replicate hx]; omega⟩
theorem ev_of {n : Int} {vals : List Dyn88} (hn : 0 ≤ n ∧ n < 8) (h : vals.map tmplD = partsE ⟨n, 0, ⟨#[]⟩, 0, 0, z32⟩) (hg : ∀ d ∈ vals, goodD d) : ∃ e : ApiEvent, e.Kind = n ∧ partsE e = vals ∧ ofE e = e ∧ okE e ∧ e.Name.size ≤ 100 := by
  have hz := z32_ok
  have h0 : (⟨#[]⟩ : ByteArray).size = 0 := rfl
  rcases kinds n with k | k | k | k | k | k | k | k | ⟨k0, k4, k5, k1, k2, k3, k6, k7⟩
  case inr.inr.inr.inr.inr.inr.inr.inr => omega
  all_goals subst k
  all_goals simp [partsE] at h
  · obtain ⟨v, r, rfl, e1, h⟩ := map_cons' h
    obtain ⟨w, r, rfl, e2, h⟩ := map_cons' h
    obtain rfl := map_nil' h
    obtain ⟨a, rfl⟩ := tm68 e1; obtain ⟨s, rfl⟩ := tm53 e2
    have hs : s.size ≤ 100 := hg (.i108 s) (by simp)
    exact ⟨⟨0, a, s, 0, 0, z32⟩, rfl, rfl, rfl, ⟨by show s.size ≤ _; omega, hz⟩, hs⟩
  · obtain ⟨v, r, rfl, e1, h⟩ := map_cons' h
    obtain ⟨w, r, rfl, e2, h⟩ := map_cons' h
    obtain rfl := map_nil' h
    obtain ⟨a, rfl⟩ := tm68 e1; obtain ⟨s, rfl⟩ := tm53 e2
    have hs : s.size ≤ 100 := hg (.i108 s) (by simp)
    exact ⟨⟨4, a, s, 0, 0, z32⟩, rfl, rfl, rfl, ⟨by show s.size ≤ _; omega, hz⟩, hs⟩
  · obtain ⟨v, r, rfl, e1, h⟩ := map_cons' h
    obtain ⟨w, r, rfl, e2, h⟩ := map_cons' h
    obtain rfl := map_nil' h
    obtain ⟨a, rfl⟩ := tm68 e1; obtain ⟨s, rfl⟩ := tm53 e2
    have hs : s.size ≤ 100 := hg (.i108 s) (by simp)
    exact ⟨⟨5, a, s, 0, 0, z32⟩, rfl, rfl, rfl, ⟨by show s.size ≤ _; omega, hz⟩, hs⟩
  · obtain ⟨v, r, rfl, e1, h⟩ := map_cons' h
    obtain ⟨w, r, rfl, e2, h⟩ := map_cons' h
    obtain rfl := map_nil' h
    obtain ⟨a, rfl⟩ := tm68 e1; obtain ⟨b, rfl⟩ := tm68 e2
    exact ⟨⟨1, a, ⟨#[]⟩, 0, b, z32⟩, rfl, rfl, rfl, ⟨by show (0 : Nat) ≤ _; omega, hz⟩, by show (0 : Nat) ≤ _; omega⟩
  · obtain ⟨v, r, rfl, e1, h⟩ := map_cons' h
    obtain ⟨w, r, rfl, e2, h⟩ := map_cons' h
    obtain ⟨x, r, rfl, e3, h⟩ := map_cons' h
    obtain ⟨y, r, rfl, e4, h⟩ := map_cons' h
    obtain rfl := map_nil' h
    obtain ⟨a, rfl⟩ := tm68 e1; obtain ⟨b, rfl⟩ := tm68 e2; obtain ⟨c, rfl⟩ := tm68 e3; obtain ⟨d, rfl⟩ := tm71 e4
    have hd : d.length = 32 ∧ isB d := hg (.i112 d) (by simp)
    exact ⟨⟨2, a, ⟨#[]⟩, b, c, d⟩, rfl, rfl, rfl, ⟨by show (0 : Nat) ≤ _; omega, hd⟩, by show (0 : Nat) ≤ _; omega⟩
  · obtain ⟨v, r, rfl, e1, h⟩ := map_cons' h
    obtain ⟨w, r, rfl, e2, h⟩ := map_cons' h
    obtain rfl := map_nil' h
    obtain ⟨a, rfl⟩ := tm68 e1; obtain ⟨b, rfl⟩ := tm68 e2
    exact ⟨⟨3, a, ⟨#[]⟩, b, 0, z32⟩, rfl, rfl, rfl, ⟨by show (0 : Nat) ≤ _; omega, hz⟩, by show (0 : Nat) ≤ _; omega⟩
  · obtain ⟨v, rfl, e1⟩ := h
    obtain ⟨a, rfl⟩ := tm68 e1
    exact ⟨⟨6, a, ⟨#[]⟩, 0, 0, z32⟩, rfl, rfl, rfl, ⟨by show (0 : Nat) ≤ _; omega, hz⟩, by show (0 : Nat) ≤ _; omega⟩
  · obtain ⟨v, rfl, e1⟩ := h
    obtain ⟨a, rfl⟩ := tm68 e1
    exact ⟨⟨7, 0, ⟨#[]⟩, a, 0, z32⟩, rfl, rfl, rfl, ⟨by show (0 : Nat) ≤ _; omega, hz⟩, by show (0 : Nat) ≤ _; omega⟩
theorem parts_isT {n : Int} : ∀ d ∈ partsE ⟨n, 0, ⟨#[]⟩, 0, 0, z32⟩, isT d := by
  intro d hd
  unfold partsE at hd
  repeat' split at hd
  all_goals simp at hd
  all_goals (try (rcases hd with rfl | rfl | rfl | rfl) <;> exact ⟨by simp, rfl⟩)
  all_goals (try (rcases hd with rfl | rfl) <;> exact ⟨by simp, rfl⟩)
  all_goals (try (subst hd; exact ⟨by simp, rfl⟩))
theorem Get_any {xs : List Int} (hx : isB xs) (hn : xs.length ≤ 1000000) : event_Get (strOfNums xs) = some (evZ, ⟨#[]⟩, false) ∨ ∃ (e : ApiEvent) (r : List Int), okE e ∧ e.Name.size ≤ 100 ∧ validE e = true ∧ isB r ∧ xs = putE e ++ r ∧ event_Get (strOfNums xs) = some (e, strOfNums r, true) := by
  have hF : FU = 4611686018427387904 := rfl
  rcases wire_num_cases hx with h | ⟨n, r, h0, h1, hr, he, h⟩
  · left; unfold event_Get; rw [h]; rfl
  · by_cases h8 : n ≥ 8
    · left; unfold event_Get; rw [h]
      simp only [Option.bind_some, Bool.not_true, Bool.false_eq_true, if_false, event_words, h8, decide_true, if_true]
      rfl
    · have hrl : r.length ≤ 1000000 := by have := congrArg List.length he; rw [List.length_append] at this; omega
      have hpe : event_parts (ApiEvent.mk n 0 (⟨#[]⟩ : ByteArray) 0 0 (List.replicate 32 (0 : Int))) = some (partsE ⟨n, 0, ⟨#[]⟩, 0, 0, z32⟩) := parts_eq _
      have hl := parts_len ⟨n, 0, ⟨#[]⟩, 0, 0, z32⟩
      rcases Get_any_l0 (partsE ⟨n, 0, ⟨#[]⟩, 0, 0, z32⟩) (by omega) (partsE ⟨n, 0, ⟨#[]⟩, 0, 0, z32⟩) [] FU r parts_isT hr hrl (by simp) (by omega) with q | ⟨vals, r', q1, q2, q3, q4, q5⟩
      · left
        have q' : event_Get.l0 (partsE ⟨n, 0, ⟨#[]⟩, 0, 0, z32⟩) FU (strOfNums r) (partsE ⟨n, 0, ⟨#[]⟩, 0, 0, z32⟩) 0 = some (.inl (evZ, ⟨#[]⟩, false)) := q
        unfold event_Get; rw [h]
        simp only [Option.bind_some, Bool.not_true, Bool.false_eq_true, if_false, event_words, h8, decide_false, hpe, q']
      · obtain ⟨e, k1, k2, k3, k4, k5⟩ := ev_of ⟨h0, by omega⟩ q1 q2
        have q' : event_Get.l0 (partsE ⟨n, 0, ⟨#[]⟩, 0, 0, z32⟩) FU (strOfNums r) (partsE ⟨n, 0, ⟨#[]⟩, 0, 0, z32⟩) 0 = some (.inr (strOfNums r', vals)) := q5
        have hne : partsE e ≠ [] := by
          intro q
          rw [k2] at q
          rw [q] at q1
          have hh : partsE ⟨n, 0, ⟨#[]⟩, 0, 0, z32⟩ = [] := q1.symm
          unfold partsE at hh
          simp only at hh
          rcases kinds n with k | k | k | k | k | k | k | k | ⟨z0, z4, z5, z1, z2, z3, z6, z7⟩
          case inr.inr.inr.inr.inr.inr.inr.inr => omega
          all_goals simp [k] at hh
        have ho := of_eq k4 hne
        rw [k3, k1, k2] at ho
        have hv := event_Valid_eq k4
        cases hve : validE e with
        | false =>
          left
          rw [hve] at hv
          unfold event_Get; rw [h]
          simp only [Option.bind_some, Bool.not_true, Bool.false_eq_true, if_false, event_words, h8, decide_false, hpe, q', ho, hv, Bool.not_false, if_true]
          rfl
        | true =>
          right
          rw [hve] at hv
          refine ⟨e, r', k4, k5, hve, q3, ?_, ?_⟩
          · unfold putE; rw [k1, k2, he, q4, List.append_assoc]
          · unfold event_Get; rw [h]
            simp only [Option.bind_some, Bool.not_true, Bool.false_eq_true, if_false, event_words, h8, decide_false, hpe, q', ho, hv]
end Go.Cen

/- EVENT: what the document reads of any bytes. -/
set_option linter.unusedVariables false
set_option linter.unusedSimpArgs false
set_option maxRecDepth 100000
namespace Go.Cen
theorem rnum {a : Int} (h0 : 0 ≤ a) (h : a ≤ 1125899906842624) {r : List Int} (hr : isB r) : ref04_GetNum (strOfNums (numL (clampN a) ++ r)) = some (a, strOfNums r, true) := by
  rw [ref04_GetNum_eq _ (isB_app (numL_isB _) hr), getR_num h0 h]
theorem rnum_cases {xs : List Int} (hx : isB xs) : ref04_GetNum (strOfNums xs) = some (0, ⟨#[]⟩, false) ∨ ∃ (n : Int) (r : List Int), 0 ≤ n ∧ n ≤ 1125899906842624 ∧ isB r ∧ xs = numL (clampN n) ++ r ∧ ref04_GetNum (strOfNums xs) = some (n, strOfNums r, true) := by
  rw [ref04_GetNum_eq _ hx, ← wire_GetNum_eq _ hx]; exact wire_num_cases hx
theorem rnum_same {xs : List Int} (hx : isB xs) : ref04_GetNum (strOfNums xs) = wire_GetNum (strOfNums xs) := by rw [ref04_GetNum_eq _ hx, wire_GetNum_eq _ hx]
/-- what a text's reading gives -/
theorem rtext_cases {xs : List Int} (hx : isB xs) (hn : xs.length ≤ 1000000) : (ref04_GetText (strOfNums xs) 100 = some (⟨#[]⟩, ⟨#[]⟩, false) ∧ wire_GetText (strOfNums xs) 100 = some (⟨#[]⟩, ⟨#[]⟩, false)) ∨ ∃ (s : ByteArray) (r : List Int), s.size ≤ 100 ∧ isB r ∧ ref04_GetText (strOfNums xs) 100 = some (s, strOfNums r, true) ∧ wire_GetText (strOfNums xs) 100 = some (s, strOfNums r, true) := by
  rcases wire_num_cases hx with h | ⟨n, r, h0, h1, hr, he, h⟩
  · left; constructor
    · unfold ref04_GetText; rw [rnum_same hx, h]; rfl
    · unfold wire_GetText wire_text; rw [h]; rfl
  · by_cases c : n > (if (100 : Int) < (r.length : Int) then 100 else (r.length : Int))
    · left; constructor
      · unfold ref04_GetText; rw [rnum_same hx, h]
        have c2 : n > (r.length : Int) ∨ n > 100 := by split at c <;> omega
        simp only [Option.bind_some, Bool.not_true, Bool.false_eq_true, if_false, strOfNums_size]
        by_cases c3 : n > (r.length : Int)
        · simp [c3]
        · have c4 : n > 100 := c2.resolve_left c3
          simp [c3, c4]
      · unfold wire_GetText wire_text; rw [h]
        simp only [Option.bind_some, Bool.not_true, Bool.false_eq_true, if_false, strOfNums_size, c, decide_true, if_true]
        rfl
    · right
      have hn1 : n ≤ 100 := by split at c <;> omega
      have hn2 : n ≤ (r.length : Int) := by split at c <;> omega
      rcases text_cases hx hn with ⟨a, b, q⟩ | ⟨s, r', k1, k2, k3, q⟩
      · exfalso
        unfold wire_GetText wire_text at q; rw [h] at q
        have g1 : (0 : Int) ≤ 0 ∧ (0 : Int) ≤ n ∧ n ≤ (r.length : Int) := by omega
        have g2 : (0 : Int) ≤ n ∧ n ≤ (r.length : Int) ∧ (r.length : Int) ≤ (r.length : Int) := by omega
        simp only [Option.bind_some, Bool.not_true, Bool.false_eq_true, if_false, strOfNums_size, c, decide_false, g1, g2, and_self, if_true, wire_got_string_parts, Option.some.injEq, Prod.mk.injEq] at q
        simp at q
      · refine ⟨s, r', k1, k2, ?_, q⟩
        have q2 := q
        unfold wire_GetText wire_text at q2; rw [h] at q2
        unfold ref04_GetText; rw [rnum_same hx, h]
        have g1 : (0 : Int) ≤ 0 ∧ (0 : Int) ≤ n ∧ n ≤ (r.length : Int) := by omega
        have g2 : (0 : Int) ≤ n ∧ n ≤ (r.length : Int) ∧ (r.length : Int) ≤ (r.length : Int) := by omega
        have c3 : ¬ n > (r.length : Int) := by omega
        have c4 : ¬ n > 100 := by omega
        simp only [Option.bind_some, Bool.not_true, Bool.false_eq_true, if_false, strOfNums_size, c, decide_false, g1, g2, and_self, if_true, wire_got_string_parts] at q2
        simp only [Option.bind_some, Bool.not_true, Bool.false_eq_true, if_false, strOfNums_size, c3, c4, decide_false, g1, g2, and_self, if_true]
        exact q2
theorem rsum_l0 {xs : List Int} (hx : isB xs) (h32 : 32 ≤ xs.length) : ref04_GetSum.l0 (strOfNums xs) FU 0 (List.replicate 32 (0 : Int)) = some (xs.take 32) := by
  have := loopNI 32 (by omega) (fun k i (s : List Int) => ref04_GetSum.l0 (strOfNums xs) k i s) (fun i s => some (s.take i ++ (xs.drop i).take (32 - i))) (fun i s => s.length = 32)
    (fun k s hs => by
      have hd : decide (((32 : Nat) : Int) < 32) = false := by decide
      simp only [ref04_GetSum.l0, hd, Bool.false_eq_true, if_false]
      rw [List.take_of_length_le (by omega)]; simp)
    (fun k i hi hw s hs ih => by
      have hd : decide ((i : Int) < 32) = true := by simp; omega
      have hg : 0 ≤ (i : Int) ∧ (i : Int) < ((strOfNums xs).size : Int) := by rw [strOfNums_size]; omega
      have hg2 : 0 ≤ (i : Int) ∧ (i : Int) < 32 := by omega
      have hb : bt (strOfNums xs) (i : Int) = xs[i] := by rw [bt_str hx, gt_nat xs i (by omega)]
      have hst : (st s (i : Int) (xs[i])).length = 32 := by simp [st, hs]
      simp only [ref04_GetSum.l0, hd, if_true, hg, hg2, and_self, hb, hw]
      rw [ih _ hst]
      congr 1
      have hcons : xs.drop i = xs[i] :: xs.drop (i + 1) := List.drop_eq_getElem_cons (by omega)
      have e1 : (32 - i) = (32 - (i + 1)) + 1 := by omega
      rw [hcons, e1, List.take_succ_cons]
      have e2 : (st s (i : Int) (xs[i])).take (i + 1) = s.take i ++ [xs[i]] := by
        unfold st
        have : (i : Int).toNat = i := by omega
        rw [this, List.take_add_one, List.take_set_of_le (Nat.le_refl _), List.getElem?_set_self (by omega)]
        rfl
      rw [e2, List.append_assoc]; rfl) (List.replicate 32 0) (by simp)
  rw [this]; simp
theorem rsum_cases {xs : List Int} (hx : isB xs) : (ref04_GetSum (strOfNums xs) = some (z32, ⟨#[]⟩, false) ∧ wire_GetSum (strOfNums xs) = some (z32, ⟨#[]⟩, false)) ∨ ∃ (d r : List Int), d.length = 32 ∧ isB d ∧ isB r ∧ ref04_GetSum (strOfNums xs) = some (d, strOfNums r, true) ∧ wire_GetSum (strOfNums xs) = some (d, strOfNums r, true) := by
  by_cases c : xs.length < 32
  · left
    have : ((strOfNums xs).size : Int) < 32 := by rw [strOfNums_size]; omega
    constructor
    · unfold ref04_GetSum; simp only [this, decide_true, if_true]; rfl
    · unfold wire_GetSum; simp only [this, decide_true, if_true]; rfl
  · right
    have e : xs = xs.take 32 ++ xs.drop 32 := (List.take_append_drop 32 xs).symm
    have hl : (xs.take 32).length = 32 := by rw [List.length_take]; omega
    refine ⟨xs.take 32, xs.drop 32, hl, isB_take hx 32, isB_drop hx 32, ?_, ?_⟩
    · unfold ref04_GetSum
      have c2 : ¬ ((strOfNums xs).size : Int) < 32 := by rw [strOfNums_size]; omega
      have g : (0 : Int) ≤ 32 ∧ (32 : Int) ≤ ((strOfNums xs).size : Int) ∧ ((strOfNums xs).size : Int) ≤ ((strOfNums xs).size : Int) := by rw [strOfNums_size]; omega
      have es : sx (strOfNums xs) 32 ((strOfNums xs).size : Int) = strOfNums (xs.drop 32) := by
        rw [sx_str, strOfNums_size]
        have h1 : (xs.length : Int).toNat = xs.length := by omega
        have h2 : (32 : Int).toNat = 32 := rfl
        rw [h1, List.take_length, h2]
      simp only [c2, decide_false, Bool.false_eq_true, if_false, rsum_l0 hx (by omega), Option.bind_some, g, and_self, if_true, es]
    · have := gsum hl (isB_take hx 32) (isB_drop hx 32)
      rw [← e] at this
      exact this
end Go.Cen

/- EVENT: the event that any bytes begin with. -/
set_option linter.unusedVariables false
set_option linter.unusedSimpArgs false
set_option maxRecDepth 100000
namespace Go.Cen
theorem rtext_same {xs : List Int} (hx : isB xs) (hn : xs.length ≤ 1000000) : ref04_GetText (strOfNums xs) 100 = wire_GetText (strOfNums xs) 100 := by
  rcases rtext_cases hx hn with ⟨a, b⟩ | ⟨s, r, _, _, a, b⟩ <;> rw [a, b]
theorem rsum_same {xs : List Int} (hx : isB xs) : ref04_GetSum (strOfNums xs) = wire_GetSum (strOfNums xs) := by
  rcases rsum_cases hx with ⟨a, b⟩ | ⟨s, r, _, _, _, a, b⟩ <;> rw [a, b]
theorem RV {k i t l : Int} {nm : ByteArray} {s : List Int} (h1 : nm.size ≤ 100) (h2 : s.length = 32) (h3 : isB s) : ref05_Valid ⟨k, i, nm, t, l, s⟩ = some (validE ⟨k, i, nm, t, l, s⟩) := ref05_Valid_eq ⟨by show nm.size ≤ _; omega, h2, h3⟩
theorem RV0 (k i t l : Int) : ref05_Valid ⟨k, i, ⟨#[]⟩, t, l, List.replicate 32 (0 : Int)⟩ = some (validE ⟨k, i, ⟨#[]⟩, t, l, List.replicate 32 (0 : Int)⟩) := RV (by show (0 : Nat) ≤ _; omega) z32_ok.1 z32_ok.2
theorem tl0 : tells5 0 = [true, true, false, false, false] := rfl
theorem tl4 : tells5 4 = [true, true, false, false, false] := rfl
theorem tl5 : tells5 5 = [true, true, false, false, false] := rfl
theorem tl1 : tells5 1 = [true, false, false, true, false] := rfl
theorem tl2 : tells5 2 = [true, false, true, true, true] := rfl
theorem tl3 : tells5 3 = [true, false, true, false, false] := rfl
theorem tl6 : tells5 6 = [true, false, false, false, false] := rfl
theorem tl7 : tells5 7 = [false, false, true, false, false] := rfl
theorem gtB0 (a b c d e : Bool) : gt [a, b, c, d, e] 0 = a := rfl
theorem gtB1 (a b c d e : Bool) : gt [a, b, c, d, e] 1 = b := rfl
theorem gtB2 (a b c d e : Bool) : gt [a, b, c, d, e] 2 = c := rfl
theorem gtB3 (a b c d e : Bool) : gt [a, b, c, d, e] 3 = d := rfl
theorem gtB4 (a b c d e : Bool) : gt [a, b, c, d, e] 4 = e := rfl
/-- what both come to, said once -/
def outR (e : ApiEvent) (r : List Int) : Option (ApiEvent × ByteArray × Bool) := if validE e = true then some (e, strOfNums r, true) else some (evZ, ⟨#[]⟩, false)
def AnyR (xs : List Int) : Prop := ref05_Get (strOfNums xs) = some (evZ, ⟨#[]⟩, false) ∨ ∃ (e : ApiEvent) (r : List Int), okE e ∧ e.Name.size ≤ 100 ∧ validE e = true ∧ isB r ∧ xs = putE e ++ r ∧ ref05_Get (strOfNums xs) = some (e, strOfNums r, true)
theorem anyR_of {xs : List Int} {e : ApiEvent} {r : List Int} (h1 : okE e) (h2 : e.Name.size ≤ 100) (h3 : isB r) (h4 : xs = putE e ++ r) (h : ref05_Get (strOfNums xs) = outR e r) : AnyR xs := by
  unfold outR at h
  cases hv : validE e with
  | false => rw [hv] at h; exact .inl h
  | true => rw [hv] at h; exact .inr ⟨e, r, h1, h2, hv, h3, h4, h⟩
theorem fin_out (e : ApiEvent) (r : List Int) (h1 : e.Name.size ≤ 100) (h2 : e.Sum.length = 32) (h3 : isB e.Sum) : ((ref05_Valid e).bind fun y72 => ((if (!true) = true then some true else some (!y72)).bind fun x73 => (if x73 = true then some ((ApiEvent.mk 0 0 (⟨#[]⟩ : ByteArray) 0 0 (List.replicate 32 (0 : Int))), (⟨#[]⟩ : ByteArray), false) else some (e, strOfNums r, true)))) = outR e r := by
  rw [ref05_Valid_eq ⟨by omega, h2, h3⟩]
  unfold outR
  cases validE e <;> rfl
theorem RV0z (k i t l : Int) : ref05_Valid ⟨k, i, ⟨#[]⟩, t, l, z32⟩ = some (validE ⟨k, i, ⟨#[]⟩, t, l, z32⟩) := RV (by show (0 : Nat) ≤ _; omega) z32_ok.1 z32_ok.2
theorem rt {xs : List Int} (hx : isB xs) (hn : xs.length ≤ 1000000) : ref04_GetText (strOfNums xs) 100 = some (⟨#[]⟩, ⟨#[]⟩, false) ∨ ∃ (s : ByteArray) (r : List Int), s.size ≤ 100 ∧ isB r ∧ xs = (numL (clampN (s.size : Int)) ++ byts s) ++ r ∧ ref04_GetText (strOfNums xs) 100 = some (s, strOfNums r, true) := by
  rcases rtext_cases hx hn with ⟨a, b⟩ | ⟨s, r, _, _, a, b⟩
  · exact .inl a
  · rcases text_cases hx hn with ⟨x, y, w⟩ | ⟨s', r', h1, h2, h3, w⟩
    · rw [b] at w; simp at w
    · exact .inr ⟨s', r', h1, h2, h3, by rw [rtext_same hx hn]; exact w⟩
theorem rs {xs : List Int} (hx : isB xs) : ref04_GetSum (strOfNums xs) = some (z32, ⟨#[]⟩, false) ∨ ∃ (d r : List Int), d.length = 32 ∧ isB d ∧ isB r ∧ xs = d ++ r ∧ ref04_GetSum (strOfNums xs) = some (d, strOfNums r, true) := by
  rcases rsum_cases hx with ⟨a, b⟩ | ⟨s, r, _, _, _, a, b⟩
  · exact .inl a
  · rcases sum_cases hx with ⟨x, y, w⟩ | ⟨s', r', h1, h2, h3, h4, w⟩
    · rw [b] at w; simp at w
    · exact .inr ⟨s', r', h1, h2, h3, h4, by rw [rsum_same hx]; exact w⟩
theorem rGet_any {xs : List Int} (hx : isB xs) (hn : xs.length ≤ 1000000) : AnyR xs := by
  have hz := z32_ok
  rcases rnum_cases hx with h | ⟨n, r, h0, h1, hr, he, h⟩
  · left; unfold ref05_Get; rw [h]; rfl
  by_cases h8 : n > 7
  · left; unfold ref05_Get; rw [h]
    simp only [Option.bind_some, Bool.not_true, Bool.false_eq_true, if_false, h8, decide_true, if_true]
    rfl
  have hrl : r.length ≤ 1000000 := by have := congrArg List.length he; rw [List.length_append] at this; omega
  have e0s : (⟨#[]⟩ : ByteArray).size = 0 := rfl
  rcases kinds n with k | k | k | k | k | k | k | k | ⟨k0, k4, k5, k1, k2, k3, k6, k7⟩
  case inr.inr.inr.inr.inr.inr.inr.inr => omega
  all_goals subst k
  · rcases rnum_cases hr with q0 | ⟨a, r0, l0, u0, hr0, e0, q0⟩
    · left; unfold ref05_Get; rw [h]; simp only [Option.bind_some, Bool.not_true, Bool.not_false, Bool.false_eq_true, if_false, if_true, h8, decide_false, tells_eq, tl0, gtB0, gtB1, gtB2, gtB3, gtB4, RV0, RV0z, q0]; rfl
    ·
      rcases rt hr0 (by have := congrArg List.length e0; rw [List.length_append] at this; omega) with q1 | ⟨s, r1, s1, hr1, e1, q1⟩
      · left; unfold ref05_Get; rw [h]; simp only [Option.bind_some, Bool.not_true, Bool.not_false, Bool.false_eq_true, if_false, if_true, h8, decide_false, tells_eq, tl0, gtB0, gtB1, gtB2, gtB3, gtB4, RV0, RV0z, q0, q1]; rfl
      ·
        refine anyR_of (e := ⟨0, a, s, 0, 0, z32⟩) (r := r1) ⟨(by show s.size ≤ 100000; omega), hz.1, hz.2⟩ s1 hr1 ?_ ?_
        · rw [he, e0, e1]; simp [putE, partsE, bytD]
        · unfold ref05_Get; rw [h]; simp only [Option.bind_some, Bool.not_true, Bool.not_false, Bool.false_eq_true, if_false, if_true, h8, decide_false, tells_eq, tl0, gtB0, gtB1, gtB2, gtB3, gtB4, q0, q1]; exact fin_out ⟨0, a, s, 0, 0, z32⟩ r1 s1 hz.1 hz.2
  · rcases rnum_cases hr with q0 | ⟨a, r0, l0, u0, hr0, e0, q0⟩
    · left; unfold ref05_Get; rw [h]; simp only [Option.bind_some, Bool.not_true, Bool.not_false, Bool.false_eq_true, if_false, if_true, h8, decide_false, tells_eq, tl4, gtB0, gtB1, gtB2, gtB3, gtB4, RV0, RV0z, q0]; rfl
    ·
      rcases rt hr0 (by have := congrArg List.length e0; rw [List.length_append] at this; omega) with q1 | ⟨s, r1, s1, hr1, e1, q1⟩
      · left; unfold ref05_Get; rw [h]; simp only [Option.bind_some, Bool.not_true, Bool.not_false, Bool.false_eq_true, if_false, if_true, h8, decide_false, tells_eq, tl4, gtB0, gtB1, gtB2, gtB3, gtB4, RV0, RV0z, q0, q1]; rfl
      ·
        refine anyR_of (e := ⟨4, a, s, 0, 0, z32⟩) (r := r1) ⟨(by show s.size ≤ 100000; omega), hz.1, hz.2⟩ s1 hr1 ?_ ?_
        · rw [he, e0, e1]; simp [putE, partsE, bytD]
        · unfold ref05_Get; rw [h]; simp only [Option.bind_some, Bool.not_true, Bool.not_false, Bool.false_eq_true, if_false, if_true, h8, decide_false, tells_eq, tl4, gtB0, gtB1, gtB2, gtB3, gtB4, q0, q1]; exact fin_out ⟨4, a, s, 0, 0, z32⟩ r1 s1 hz.1 hz.2
  · rcases rnum_cases hr with q0 | ⟨a, r0, l0, u0, hr0, e0, q0⟩
    · left; unfold ref05_Get; rw [h]; simp only [Option.bind_some, Bool.not_true, Bool.not_false, Bool.false_eq_true, if_false, if_true, h8, decide_false, tells_eq, tl5, gtB0, gtB1, gtB2, gtB3, gtB4, RV0, RV0z, q0]; rfl
    ·
      rcases rt hr0 (by have := congrArg List.length e0; rw [List.length_append] at this; omega) with q1 | ⟨s, r1, s1, hr1, e1, q1⟩
      · left; unfold ref05_Get; rw [h]; simp only [Option.bind_some, Bool.not_true, Bool.not_false, Bool.false_eq_true, if_false, if_true, h8, decide_false, tells_eq, tl5, gtB0, gtB1, gtB2, gtB3, gtB4, RV0, RV0z, q0, q1]; rfl
      ·
        refine anyR_of (e := ⟨5, a, s, 0, 0, z32⟩) (r := r1) ⟨(by show s.size ≤ 100000; omega), hz.1, hz.2⟩ s1 hr1 ?_ ?_
        · rw [he, e0, e1]; simp [putE, partsE, bytD]
        · unfold ref05_Get; rw [h]; simp only [Option.bind_some, Bool.not_true, Bool.not_false, Bool.false_eq_true, if_false, if_true, h8, decide_false, tells_eq, tl5, gtB0, gtB1, gtB2, gtB3, gtB4, q0, q1]; exact fin_out ⟨5, a, s, 0, 0, z32⟩ r1 s1 hz.1 hz.2
  · rcases rnum_cases hr with q0 | ⟨a, r0, l0, u0, hr0, e0, q0⟩
    · left; unfold ref05_Get; rw [h]; simp only [Option.bind_some, Bool.not_true, Bool.not_false, Bool.false_eq_true, if_false, if_true, h8, decide_false, tells_eq, tl1, gtB0, gtB1, gtB2, gtB3, gtB4, RV0, RV0z, q0]; rfl
    ·
      rcases rnum_cases hr0 with q1 | ⟨b, r1, l1, u1, hr1, e1, q1⟩
      · left; unfold ref05_Get; rw [h]; simp only [Option.bind_some, Bool.not_true, Bool.not_false, Bool.false_eq_true, if_false, if_true, h8, decide_false, tells_eq, tl1, gtB0, gtB1, gtB2, gtB3, gtB4, RV0, RV0z, q0, q1]; rfl
      ·
        refine anyR_of (e := ⟨1, a, ⟨#[]⟩, 0, b, z32⟩) (r := r1) ⟨(by show (0 : Nat) ≤ 100000; omega), hz.1, hz.2⟩ (by show (0 : Nat) ≤ 100; omega) hr1 ?_ ?_
        · rw [he, e0, e1]; simp [putE, partsE, bytD]
        · unfold ref05_Get; rw [h]; simp only [Option.bind_some, Bool.not_true, Bool.not_false, Bool.false_eq_true, if_false, if_true, h8, decide_false, tells_eq, tl1, gtB0, gtB1, gtB2, gtB3, gtB4, q0, q1]; exact fin_out ⟨1, a, ⟨#[]⟩, 0, b, z32⟩ r1 (by show (0 : Nat) ≤ 100; omega) hz.1 hz.2
  · rcases rnum_cases hr with q0 | ⟨a, r0, l0, u0, hr0, e0, q0⟩
    · left; unfold ref05_Get; rw [h]; simp only [Option.bind_some, Bool.not_true, Bool.not_false, Bool.false_eq_true, if_false, if_true, h8, decide_false, tells_eq, tl2, gtB0, gtB1, gtB2, gtB3, gtB4, RV0, RV0z, q0]; rfl
    ·
      rcases rnum_cases hr0 with q1 | ⟨b, r1, l1, u1, hr1, e1, q1⟩
      · left; unfold ref05_Get; rw [h]; simp only [Option.bind_some, Bool.not_true, Bool.not_false, Bool.false_eq_true, if_false, if_true, h8, decide_false, tells_eq, tl2, gtB0, gtB1, gtB2, gtB3, gtB4, RV0, RV0z, q0, q1]; rfl
      ·
        rcases rnum_cases hr1 with q2 | ⟨c, r2, l2, u2, hr2, e2, q2⟩
        · left; unfold ref05_Get; rw [h]; simp only [Option.bind_some, Bool.not_true, Bool.not_false, Bool.false_eq_true, if_false, if_true, h8, decide_false, tells_eq, tl2, gtB0, gtB1, gtB2, gtB3, gtB4, RV0, RV0z, q0, q1, q2]; rfl
        ·
          rcases rs hr2 with q3 | ⟨d, r3, d1, d2, hr3, e3, q3⟩
          · left; unfold ref05_Get; rw [h]; simp only [Option.bind_some, Bool.not_true, Bool.not_false, Bool.false_eq_true, if_false, if_true, h8, decide_false, tells_eq, tl2, gtB0, gtB1, gtB2, gtB3, gtB4, RV0, RV0z, q0, q1, q2, q3]; rfl
          ·
            refine anyR_of (e := ⟨2, a, ⟨#[]⟩, b, c, d⟩) (r := r3) ⟨(by show (0 : Nat) ≤ 100000; omega), d1, d2⟩ (by show (0 : Nat) ≤ 100; omega) hr3 ?_ ?_
            · rw [he, e0, e1, e2, e3]; simp [putE, partsE, bytD]
            · unfold ref05_Get; rw [h]; simp only [Option.bind_some, Bool.not_true, Bool.not_false, Bool.false_eq_true, if_false, if_true, h8, decide_false, tells_eq, tl2, gtB0, gtB1, gtB2, gtB3, gtB4, q0, q1, q2, q3]; exact fin_out ⟨2, a, ⟨#[]⟩, b, c, d⟩ r3 (by show (0 : Nat) ≤ 100; omega) d1 d2
  · rcases rnum_cases hr with q0 | ⟨a, r0, l0, u0, hr0, e0, q0⟩
    · left; unfold ref05_Get; rw [h]; simp only [Option.bind_some, Bool.not_true, Bool.not_false, Bool.false_eq_true, if_false, if_true, h8, decide_false, tells_eq, tl3, gtB0, gtB1, gtB2, gtB3, gtB4, RV0, RV0z, q0]; rfl
    ·
      rcases rnum_cases hr0 with q1 | ⟨b, r1, l1, u1, hr1, e1, q1⟩
      · left; unfold ref05_Get; rw [h]; simp only [Option.bind_some, Bool.not_true, Bool.not_false, Bool.false_eq_true, if_false, if_true, h8, decide_false, tells_eq, tl3, gtB0, gtB1, gtB2, gtB3, gtB4, RV0, RV0z, q0, q1]; rfl
      ·
        refine anyR_of (e := ⟨3, a, ⟨#[]⟩, b, 0, z32⟩) (r := r1) ⟨(by show (0 : Nat) ≤ 100000; omega), hz.1, hz.2⟩ (by show (0 : Nat) ≤ 100; omega) hr1 ?_ ?_
        · rw [he, e0, e1]; simp [putE, partsE, bytD]
        · unfold ref05_Get; rw [h]; simp only [Option.bind_some, Bool.not_true, Bool.not_false, Bool.false_eq_true, if_false, if_true, h8, decide_false, tells_eq, tl3, gtB0, gtB1, gtB2, gtB3, gtB4, q0, q1]; exact fin_out ⟨3, a, ⟨#[]⟩, b, 0, z32⟩ r1 (by show (0 : Nat) ≤ 100; omega) hz.1 hz.2
  · rcases rnum_cases hr with q0 | ⟨a, r0, l0, u0, hr0, e0, q0⟩
    · left; unfold ref05_Get; rw [h]; simp only [Option.bind_some, Bool.not_true, Bool.not_false, Bool.false_eq_true, if_false, if_true, h8, decide_false, tells_eq, tl6, gtB0, gtB1, gtB2, gtB3, gtB4, RV0, RV0z, q0]; rfl
    ·
      refine anyR_of (e := ⟨6, a, ⟨#[]⟩, 0, 0, z32⟩) (r := r0) ⟨(by show (0 : Nat) ≤ 100000; omega), hz.1, hz.2⟩ (by show (0 : Nat) ≤ 100; omega) hr0 ?_ ?_
      · rw [he, e0]; simp [putE, partsE, bytD]
      · unfold ref05_Get; rw [h]; simp only [Option.bind_some, Bool.not_true, Bool.not_false, Bool.false_eq_true, if_false, if_true, h8, decide_false, tells_eq, tl6, gtB0, gtB1, gtB2, gtB3, gtB4, q0]; exact fin_out ⟨6, a, ⟨#[]⟩, 0, 0, z32⟩ r0 (by show (0 : Nat) ≤ 100; omega) hz.1 hz.2
  · rcases rnum_cases hr with q0 | ⟨a, r0, l0, u0, hr0, e0, q0⟩
    · left; unfold ref05_Get; rw [h]; simp only [Option.bind_some, Bool.not_true, Bool.not_false, Bool.false_eq_true, if_false, if_true, h8, decide_false, tells_eq, tl7, gtB0, gtB1, gtB2, gtB3, gtB4, RV0, RV0z, q0]; rfl
    ·
      refine anyR_of (e := ⟨7, 0, ⟨#[]⟩, a, 0, z32⟩) (r := r0) ⟨(by show (0 : Nat) ≤ 100000; omega), hz.1, hz.2⟩ (by show (0 : Nat) ≤ 100; omega) hr0 ?_ ?_
      · rw [he, e0]; simp [putE, partsE, bytD]
      · unfold ref05_Get; rw [h]; simp only [Option.bind_some, Bool.not_true, Bool.not_false, Bool.false_eq_true, if_false, if_true, h8, decide_false, tells_eq, tl7, gtB0, gtB1, gtB2, gtB3, gtB4, q0]; exact fin_out ⟨7, 0, ⟨#[]⟩, a, 0, z32⟩ r0 (by show (0 : Nat) ≤ 100; omega) hz.1 hz.2
theorem rput0 {a : Int} (a0 : 0 ≤ a ∧ a ≤ 1125899906842624) {s : ByteArray} (s1 : s.size ≤ 100) {r : List Int} (hr : isB r) (hl : r.length ≤ 1000) (hv : validE ⟨0, a, s, 0, 0, z32⟩ = true) : ref05_Get (strOfNums (putE ⟨0, a, s, 0, 0, z32⟩ ++ r)) = some (⟨0, a, s, 0, 0, z32⟩, strOfNums r, true) := by
  have hz := z32_ok
  have hp : putE ⟨0, a, s, 0, 0, z32⟩ ++ r = numL (clampN 0) ++ (numL (clampN a) ++ ((numL (clampN (s.size : Int)) ++ byts s) ++ r)) := by simp [putE, partsE, bytD]
  have h8 : ¬ (0 : Int) > 7 := by omega
  have h := rnum (a := 0) (by omega) (by omega) (isB_app (numL_isB (clampN a)) (isB_app (isB_app (numL_isB (clampN (s.size : Int))) (byts_isB s)) hr))
  have q0 := rnum a0.1 a0.2 (isB_app (isB_app (numL_isB (clampN (s.size : Int))) (byts_isB s)) hr)
  have q1 := (rtext_same (isB_app (isB_app (numL_isB (clampN (s.size : Int))) (byts_isB s)) hr) (by have := numL_len 7 (clampN (s.size : Int)) (by have := clampN_le (s.size : Int); omega); simp only [List.length_append, byts_len]; omega)).trans (gtext s1 hr)
  rw [hp]; unfold ref05_Get; rw [h]
  simp only [Option.bind_some, Bool.not_true, Bool.not_false, Bool.false_eq_true, if_false, if_true, h8, decide_false, tells_eq, tl0, gtB0, gtB1, gtB2, gtB3, gtB4, q0, q1]
  exact (fin_out ⟨0, a, s, 0, 0, z32⟩ r s1 hz.1 hz.2).trans (by unfold outR; rw [hv]; rfl)
theorem rput4 {a : Int} (a0 : 0 ≤ a ∧ a ≤ 1125899906842624) {s : ByteArray} (s1 : s.size ≤ 100) {r : List Int} (hr : isB r) (hl : r.length ≤ 1000) (hv : validE ⟨4, a, s, 0, 0, z32⟩ = true) : ref05_Get (strOfNums (putE ⟨4, a, s, 0, 0, z32⟩ ++ r)) = some (⟨4, a, s, 0, 0, z32⟩, strOfNums r, true) := by
  have hz := z32_ok
  have hp : putE ⟨4, a, s, 0, 0, z32⟩ ++ r = numL (clampN 4) ++ (numL (clampN a) ++ ((numL (clampN (s.size : Int)) ++ byts s) ++ r)) := by simp [putE, partsE, bytD]
  have h8 : ¬ (4 : Int) > 7 := by omega
  have h := rnum (a := 4) (by omega) (by omega) (isB_app (numL_isB (clampN a)) (isB_app (isB_app (numL_isB (clampN (s.size : Int))) (byts_isB s)) hr))
  have q0 := rnum a0.1 a0.2 (isB_app (isB_app (numL_isB (clampN (s.size : Int))) (byts_isB s)) hr)
  have q1 := (rtext_same (isB_app (isB_app (numL_isB (clampN (s.size : Int))) (byts_isB s)) hr) (by have := numL_len 7 (clampN (s.size : Int)) (by have := clampN_le (s.size : Int); omega); simp only [List.length_append, byts_len]; omega)).trans (gtext s1 hr)
  rw [hp]; unfold ref05_Get; rw [h]
  simp only [Option.bind_some, Bool.not_true, Bool.not_false, Bool.false_eq_true, if_false, if_true, h8, decide_false, tells_eq, tl4, gtB0, gtB1, gtB2, gtB3, gtB4, q0, q1]
  exact (fin_out ⟨4, a, s, 0, 0, z32⟩ r s1 hz.1 hz.2).trans (by unfold outR; rw [hv]; rfl)
theorem rput5 {a : Int} (a0 : 0 ≤ a ∧ a ≤ 1125899906842624) {s : ByteArray} (s1 : s.size ≤ 100) {r : List Int} (hr : isB r) (hl : r.length ≤ 1000) (hv : validE ⟨5, a, s, 0, 0, z32⟩ = true) : ref05_Get (strOfNums (putE ⟨5, a, s, 0, 0, z32⟩ ++ r)) = some (⟨5, a, s, 0, 0, z32⟩, strOfNums r, true) := by
  have hz := z32_ok
  have hp : putE ⟨5, a, s, 0, 0, z32⟩ ++ r = numL (clampN 5) ++ (numL (clampN a) ++ ((numL (clampN (s.size : Int)) ++ byts s) ++ r)) := by simp [putE, partsE, bytD]
  have h8 : ¬ (5 : Int) > 7 := by omega
  have h := rnum (a := 5) (by omega) (by omega) (isB_app (numL_isB (clampN a)) (isB_app (isB_app (numL_isB (clampN (s.size : Int))) (byts_isB s)) hr))
  have q0 := rnum a0.1 a0.2 (isB_app (isB_app (numL_isB (clampN (s.size : Int))) (byts_isB s)) hr)
  have q1 := (rtext_same (isB_app (isB_app (numL_isB (clampN (s.size : Int))) (byts_isB s)) hr) (by have := numL_len 7 (clampN (s.size : Int)) (by have := clampN_le (s.size : Int); omega); simp only [List.length_append, byts_len]; omega)).trans (gtext s1 hr)
  rw [hp]; unfold ref05_Get; rw [h]
  simp only [Option.bind_some, Bool.not_true, Bool.not_false, Bool.false_eq_true, if_false, if_true, h8, decide_false, tells_eq, tl5, gtB0, gtB1, gtB2, gtB3, gtB4, q0, q1]
  exact (fin_out ⟨5, a, s, 0, 0, z32⟩ r s1 hz.1 hz.2).trans (by unfold outR; rw [hv]; rfl)
theorem rput1 {a : Int} (a0 : 0 ≤ a ∧ a ≤ 1125899906842624) {b : Int} (b0 : 0 ≤ b ∧ b ≤ 1125899906842624) {r : List Int} (hr : isB r) (hl : r.length ≤ 1000) (hv : validE ⟨1, a, ⟨#[]⟩, 0, b, z32⟩ = true) : ref05_Get (strOfNums (putE ⟨1, a, ⟨#[]⟩, 0, b, z32⟩ ++ r)) = some (⟨1, a, ⟨#[]⟩, 0, b, z32⟩, strOfNums r, true) := by
  have hz := z32_ok
  have hp : putE ⟨1, a, ⟨#[]⟩, 0, b, z32⟩ ++ r = numL (clampN 1) ++ (numL (clampN a) ++ (numL (clampN b) ++ r)) := by simp [putE, partsE, bytD]
  have h8 : ¬ (1 : Int) > 7 := by omega
  have h := rnum (a := 1) (by omega) (by omega) (isB_app (numL_isB (clampN a)) (isB_app (numL_isB (clampN b)) hr))
  have q0 := rnum a0.1 a0.2 (isB_app (numL_isB (clampN b)) hr)
  have q1 := rnum b0.1 b0.2 hr
  rw [hp]; unfold ref05_Get; rw [h]
  simp only [Option.bind_some, Bool.not_true, Bool.not_false, Bool.false_eq_true, if_false, if_true, h8, decide_false, tells_eq, tl1, gtB0, gtB1, gtB2, gtB3, gtB4, q0, q1]
  exact (fin_out ⟨1, a, ⟨#[]⟩, 0, b, z32⟩ r (by show (0 : Nat) ≤ 100; omega) hz.1 hz.2).trans (by unfold outR; rw [hv]; rfl)
theorem rput2 {a : Int} (a0 : 0 ≤ a ∧ a ≤ 1125899906842624) {b : Int} (b0 : 0 ≤ b ∧ b ≤ 1125899906842624) {c : Int} (c0 : 0 ≤ c ∧ c ≤ 1125899906842624) {d : List Int} (d1 : d.length = 32) (d2 : isB d) {r : List Int} (hr : isB r) (hl : r.length ≤ 1000) (hv : validE ⟨2, a, ⟨#[]⟩, b, c, d⟩ = true) : ref05_Get (strOfNums (putE ⟨2, a, ⟨#[]⟩, b, c, d⟩ ++ r)) = some (⟨2, a, ⟨#[]⟩, b, c, d⟩, strOfNums r, true) := by
  have hz := z32_ok
  have hp : putE ⟨2, a, ⟨#[]⟩, b, c, d⟩ ++ r = numL (clampN 2) ++ (numL (clampN a) ++ (numL (clampN b) ++ (numL (clampN c) ++ (d ++ r)))) := by simp [putE, partsE, bytD]
  have h8 : ¬ (2 : Int) > 7 := by omega
  have h := rnum (a := 2) (by omega) (by omega) (isB_app (numL_isB (clampN a)) (isB_app (numL_isB (clampN b)) (isB_app (numL_isB (clampN c)) (isB_app (d2) hr))))
  have q0 := rnum a0.1 a0.2 (isB_app (numL_isB (clampN b)) (isB_app (numL_isB (clampN c)) (isB_app (d2) hr)))
  have q1 := rnum b0.1 b0.2 (isB_app (numL_isB (clampN c)) (isB_app (d2) hr))
  have q2 := rnum c0.1 c0.2 (isB_app (d2) hr)
  have q3 := (rsum_same (isB_app (d2) hr)).trans (gsum d1 d2 hr)
  rw [hp]; unfold ref05_Get; rw [h]
  simp only [Option.bind_some, Bool.not_true, Bool.not_false, Bool.false_eq_true, if_false, if_true, h8, decide_false, tells_eq, tl2, gtB0, gtB1, gtB2, gtB3, gtB4, q0, q1, q2, q3]
  exact (fin_out ⟨2, a, ⟨#[]⟩, b, c, d⟩ r (by show (0 : Nat) ≤ 100; omega) d1 d2).trans (by unfold outR; rw [hv]; rfl)
theorem rput3 {a : Int} (a0 : 0 ≤ a ∧ a ≤ 1125899906842624) {b : Int} (b0 : 0 ≤ b ∧ b ≤ 1125899906842624) {r : List Int} (hr : isB r) (hl : r.length ≤ 1000) (hv : validE ⟨3, a, ⟨#[]⟩, b, 0, z32⟩ = true) : ref05_Get (strOfNums (putE ⟨3, a, ⟨#[]⟩, b, 0, z32⟩ ++ r)) = some (⟨3, a, ⟨#[]⟩, b, 0, z32⟩, strOfNums r, true) := by
  have hz := z32_ok
  have hp : putE ⟨3, a, ⟨#[]⟩, b, 0, z32⟩ ++ r = numL (clampN 3) ++ (numL (clampN a) ++ (numL (clampN b) ++ r)) := by simp [putE, partsE, bytD]
  have h8 : ¬ (3 : Int) > 7 := by omega
  have h := rnum (a := 3) (by omega) (by omega) (isB_app (numL_isB (clampN a)) (isB_app (numL_isB (clampN b)) hr))
  have q0 := rnum a0.1 a0.2 (isB_app (numL_isB (clampN b)) hr)
  have q1 := rnum b0.1 b0.2 hr
  rw [hp]; unfold ref05_Get; rw [h]
  simp only [Option.bind_some, Bool.not_true, Bool.not_false, Bool.false_eq_true, if_false, if_true, h8, decide_false, tells_eq, tl3, gtB0, gtB1, gtB2, gtB3, gtB4, q0, q1]
  exact (fin_out ⟨3, a, ⟨#[]⟩, b, 0, z32⟩ r (by show (0 : Nat) ≤ 100; omega) hz.1 hz.2).trans (by unfold outR; rw [hv]; rfl)
theorem rput6 {a : Int} (a0 : 0 ≤ a ∧ a ≤ 1125899906842624) {r : List Int} (hr : isB r) (hl : r.length ≤ 1000) (hv : validE ⟨6, a, ⟨#[]⟩, 0, 0, z32⟩ = true) : ref05_Get (strOfNums (putE ⟨6, a, ⟨#[]⟩, 0, 0, z32⟩ ++ r)) = some (⟨6, a, ⟨#[]⟩, 0, 0, z32⟩, strOfNums r, true) := by
  have hz := z32_ok
  have hp : putE ⟨6, a, ⟨#[]⟩, 0, 0, z32⟩ ++ r = numL (clampN 6) ++ (numL (clampN a) ++ r) := by simp [putE, partsE, bytD]
  have h8 : ¬ (6 : Int) > 7 := by omega
  have h := rnum (a := 6) (by omega) (by omega) (isB_app (numL_isB (clampN a)) hr)
  have q0 := rnum a0.1 a0.2 hr
  rw [hp]; unfold ref05_Get; rw [h]
  simp only [Option.bind_some, Bool.not_true, Bool.not_false, Bool.false_eq_true, if_false, if_true, h8, decide_false, tells_eq, tl6, gtB0, gtB1, gtB2, gtB3, gtB4, q0]
  exact (fin_out ⟨6, a, ⟨#[]⟩, 0, 0, z32⟩ r (by show (0 : Nat) ≤ 100; omega) hz.1 hz.2).trans (by unfold outR; rw [hv]; rfl)
theorem rput7 {a : Int} (a0 : 0 ≤ a ∧ a ≤ 1125899906842624) {r : List Int} (hr : isB r) (hl : r.length ≤ 1000) (hv : validE ⟨7, 0, ⟨#[]⟩, a, 0, z32⟩ = true) : ref05_Get (strOfNums (putE ⟨7, 0, ⟨#[]⟩, a, 0, z32⟩ ++ r)) = some (⟨7, 0, ⟨#[]⟩, a, 0, z32⟩, strOfNums r, true) := by
  have hz := z32_ok
  have hp : putE ⟨7, 0, ⟨#[]⟩, a, 0, z32⟩ ++ r = numL (clampN 7) ++ (numL (clampN a) ++ r) := by simp [putE, partsE, bytD]
  have h8 : ¬ (7 : Int) > 7 := by omega
  have h := rnum (a := 7) (by omega) (by omega) (isB_app (numL_isB (clampN a)) hr)
  have q0 := rnum a0.1 a0.2 hr
  rw [hp]; unfold ref05_Get; rw [h]
  simp only [Option.bind_some, Bool.not_true, Bool.not_false, Bool.false_eq_true, if_false, if_true, h8, decide_false, tells_eq, tl7, gtB0, gtB1, gtB2, gtB3, gtB4, q0]
  exact (fin_out ⟨7, 0, ⟨#[]⟩, a, 0, z32⟩ r (by show (0 : Nat) ≤ 100; omega) hz.1 hz.2).trans (by unfold outR; rw [hv]; rfl)
theorem rGet_put {e : ApiEvent} (h : okE e) (hN : e.Name.size ≤ 100) (hv : validE e = true) {r : List Int} (hr : isB r) (hl : r.length ≤ 1000) : ref05_Get (strOfNums (putE e ++ r)) = some (e, strOfNums r, true) := by
  obtain ⟨f1, f2, f3⟩ := valid_form h hv
  obtain ⟨n1, n2, n3⟩ := valid_nums h hv
  obtain ⟨k, i, nm, t, l, s⟩ := e
  simp only at n1 n2 n3 hN
  have hs : s.length = 32 ∧ isB s := h.2
  rcases kinds k with q | q | q | q | q | q | q | q | ⟨k0, k4, k5, k1, k2, k3, k6, k7⟩
  case inr.inr.inr.inr.inr.inr.inr.inr => simp [validE, k0, k1, k2, k3, k4, k5, k6, k7] at hv
  all_goals subst q
  · have : (⟨0, i, nm, 0, 0, z32⟩ : ApiEvent) = ⟨0, i, nm, t, l, s⟩ := f2
    rw [← this] at hv ⊢; exact rput0 (by omega) hN hr hl hv
  · have : (⟨4, i, nm, 0, 0, z32⟩ : ApiEvent) = ⟨4, i, nm, t, l, s⟩ := f2
    rw [← this] at hv ⊢; exact rput4 (by omega) hN hr hl hv
  · have : (⟨5, i, nm, 0, 0, z32⟩ : ApiEvent) = ⟨5, i, nm, t, l, s⟩ := f2
    rw [← this] at hv ⊢; exact rput5 (by omega) hN hr hl hv
  · have : (⟨1, i, ⟨#[]⟩, 0, l, z32⟩ : ApiEvent) = ⟨1, i, nm, t, l, s⟩ := f2
    rw [← this] at hv ⊢; exact rput1 (by omega) (by omega) hr hl hv
  · have : (⟨2, i, ⟨#[]⟩, t, l, s⟩ : ApiEvent) = ⟨2, i, nm, t, l, s⟩ := f2
    rw [← this] at hv ⊢; exact rput2 (by omega) (by omega) (by omega) hs.1 hs.2 hr hl hv
  · have : (⟨3, i, ⟨#[]⟩, t, 0, z32⟩ : ApiEvent) = ⟨3, i, nm, t, l, s⟩ := f2
    rw [← this] at hv ⊢; exact rput3 (by omega) (by omega) hr hl hv
  · have : (⟨6, i, ⟨#[]⟩, 0, 0, z32⟩ : ApiEvent) = ⟨6, i, nm, t, l, s⟩ := f2
    rw [← this] at hv ⊢; exact rput6 (by omega) hr hl hv
  · have : (⟨7, 0, ⟨#[]⟩, t, 0, z32⟩ : ApiEvent) = ⟨7, i, nm, t, l, s⟩ := f2
    rw [← this] at hv ⊢; exact rput7 (by omega) hr hl hv
end Go.Cen

/- CHAIN: heads, inputs. -/
set_option linter.unusedVariables false
set_option linter.unusedSimpArgs false
set_option maxRecDepth 100000
namespace Go.Cen
theorem putE_isB {e : ApiEvent} (h : okE e) : isB (putE e) := isB_app (numL_isB _) (isB_flat fun d hd => bytD_isB (parts_ok h d hd))
def okL (l : List ApiEvent) : Prop := ∀ e ∈ l, okE e
def allV (l : List ApiEvent) : Bool := l.all validE
/-! ### all inputs, and heads -/
def c0 : List Int := [99, 101, 110, 111, 116, 97, 112, 104]
/-! ### what heads are -/
end Go.Cen

/- CHAIN: Collide, Few, the examples. -/
set_option linter.unusedVariables false
set_option linter.unusedSimpArgs false
set_option maxRecDepth 100000
namespace Go.Cen
/-! ### how many are looked at -/
/-! ### from behind on -/
/-! ### the examples -/
theorem nil_okL : okL [] := fun e he => by cases he
end Go.Cen

/- CHAIN: the laws on heads. -/
set_option linter.unusedVariables false
set_option linter.unusedSimpArgs false
set_option maxRecDepth 100000
namespace Go.Cen
/-! ### two rows of one head -/
theorem Same_eq {a b : List ApiEvent} (h : a.length ≤ 100000) : ∃ r, ref05_Same a b = some r ∧ (r = true ↔ a = b) := by
  unfold ref05_Same
  by_cases hl : a.length = b.length
  · have hz : (((a.length : Nat) : Int) != (b.length : Int)) = false := by rw [hl]; simp
    rw [hz]
    have := loop_eq a b hl (by omega) eq_ApiEvent (fun k i => ref05_Same.l0 a b k i)
      (fun k hd => by simp only [ref05_Same.l0, hd]; rfl)
      (fun k i hi hd hg hg2 hw => by
        simp only [ref05_Same.l0, hd, if_true, hg, hg2, and_self, hw]
        cases eq_ApiEvent (gt a (i : Int)) (gt b (i : Int)) <;> simp)
    rw [show ref05_Same.l0 a b FU 0 = _ from this]
    have hz := zip_all_eq eq_ApiEvent eq_event_iff a b hl
    by_cases q : (a.zip b).all (fun p => eq_ApiEvent p.1 p.2) = true
    · rw [if_pos q]
      exact ⟨true, rfl, by simp [hz.1 q]⟩
    · rw [if_neg q]
      exact ⟨false, rfl, by simp; exact fun h => q (hz.2 h)⟩
  · have hz : (((a.length : Nat) : Int) != (b.length : Int)) = true := by simp; omega
    have : a ≠ b := fun h => hl (by rw [h])
    exact ⟨false, by simp [hz], by simp [this]⟩
end Go.Cen

/- BUNDLE: bytes: what is put, and what is read again. -/
set_option linter.unusedVariables false
set_option linter.unusedSimpArgs false
set_option maxRecDepth 100000
namespace Go.Cen
/-! ### texts of at most 400 bytes -/
theorem text4_at {xs r : List Int} {m : Nat} (hx : isB xs) (h : wire_GetNum (strOfNums xs) = some ((m : Int), strOfNums r, true)) (h1 : m ≤ 400) (h2 : m ≤ r.length) :
    wire_GetText (strOfNums xs) 400 = some (strOfNums (r.take m), strOfNums (r.drop m), true) ∧ ref04_GetText (strOfNums xs) 400 = some (strOfNums (r.take m), strOfNums (r.drop m), true) := by
  have c : ¬ ((m : Int) > (if (400 : Int) < (r.length : Int) then 400 else (r.length : Int))) := by split <;> omega
  have g1 : (0 : Int) ≤ 0 ∧ (0 : Int) ≤ (m : Int) ∧ (m : Int) ≤ (r.length : Int) := by omega
  have g2 : (0 : Int) ≤ (m : Int) ∧ (m : Int) ≤ (r.length : Int) ∧ (r.length : Int) ≤ (r.length : Int) := by omega
  have c3 : ¬ (m : Int) > (r.length : Int) := by omega
  have c4 : ¬ (m : Int) > 400 := by omega
  have e1 : sx (strOfNums r) 0 (m : Int) = strOfNums (r.take m) := by rw [sx_str]; simp
  have e2 : sx (strOfNums r) (m : Int) (r.length : Int) = strOfNums (r.drop m) := by rw [sx_str]; simp
  constructor
  · unfold wire_GetText wire_text; rw [h]
    simp only [Option.bind_some, Bool.not_true, Bool.false_eq_true, if_false, strOfNums_size, c, decide_false, g1, g2, and_self, if_true, wire_got_string_parts, e1, e2]
  · unfold ref04_GetText; rw [rnum_same hx, h]
    simp only [Option.bind_some, Bool.not_true, Bool.false_eq_true, if_false, strOfNums_size, c3, c4, decide_false, g1, g2, and_self, if_true, e1, e2]
theorem text4_cases {xs : List Int} (hx : isB xs) : (wire_GetText (strOfNums xs) 400 = some (⟨#[]⟩, ⟨#[]⟩, false) ∧ ref04_GetText (strOfNums xs) 400 = some (⟨#[]⟩, ⟨#[]⟩, false)) ∨
    ∃ (t r : List Int), t.length ≤ 400 ∧ isB t ∧ isB r ∧ xs = (numL (clampN (t.length : Int)) ++ t) ++ r ∧ wire_GetText (strOfNums xs) 400 = some (strOfNums t, strOfNums r, true) ∧ ref04_GetText (strOfNums xs) 400 = some (strOfNums t, strOfNums r, true) := by
  rcases wire_num_cases hx with h | ⟨n, r, h0, h1, hr, he, h⟩
  · left; constructor
    · unfold wire_GetText wire_text; rw [h]; rfl
    · unfold ref04_GetText; rw [rnum_same hx, h]; rfl
  · by_cases c : n > (if (400 : Int) < (r.length : Int) then 400 else (r.length : Int))
    · left; constructor
      · unfold wire_GetText wire_text; rw [h]
        simp only [Option.bind_some, Bool.not_true, Bool.false_eq_true, if_false, strOfNums_size, c, decide_true, if_true]
        rfl
      · unfold ref04_GetText; rw [rnum_same hx, h]
        have c2 : n > (r.length : Int) ∨ n > 400 := by split at c <;> omega
        simp only [Option.bind_some, Bool.not_true, Bool.false_eq_true, if_false, strOfNums_size]
        by_cases c3 : n > (r.length : Int)
        · simp [c3]
        · have c4 : n > 400 := c2.resolve_left c3
          simp [c3, c4]
    · right
      have hn1 : n ≤ 400 := by split at c <;> omega
      have hn2 : n ≤ (r.length : Int) := by split at c <;> omega
      obtain ⟨m, rfl⟩ := Int.eq_ofNat_of_zero_le h0
      have ht : (r.take m).length = m := by rw [List.length_take]; omega
      obtain ⟨a, b⟩ := text4_at hx h (by omega) (by omega)
      exact ⟨r.take m, r.drop m, by omega, isB_take hr m, isB_drop hr m, by rw [ht, List.append_assoc, List.take_append_drop]; exact he, a, b⟩
theorem gtext4 {t r : List Int} (h : t.length ≤ 400) (ht : isB t) (hr : isB r) : wire_GetText (strOfNums ((numL (clampN (t.length : Int)) ++ t) ++ r)) 400 = some (strOfNums t, strOfNums r, true) ∧
    ref04_GetText (strOfNums ((numL (clampN (t.length : Int)) ++ t) ++ r)) 400 = some (strOfNums t, strOfNums r, true) := by
  rw [List.append_assoc]
  have := text4_at (m := t.length) (isB_app (numL_isB _) (isB_app ht hr)) (gnum (by omega) (by omega) (isB_app ht hr)) h (by simp)
  simpa using this
/-! ### what is put -/
def recL (e : ApiEvent) : List Int := numL (clampN ((putE e).length : Int)) ++ putE e
def headL (f : Int) (h : List Int) (n : Nat) : List Int := [67, 69, 78, 79] ++ (numL (clampN f) ++ (h ++ numL (clampN (n : Int))))
def bunL (f : Int) (h : List Int) (l : List ApiEvent) : List Int := headL f h l.length ++ l.flatMap recL
def bunOk (f : Int) (l : List ApiEvent) : Bool := decide (0 ≤ f) && (decide (f ≤ 400) && (decide (l.length ≤ 400) && allV l))
def bunR (f : Int) (h : List Int) (l : List ApiEvent) : ByteArray × Bool := if bunOk f l = true then (strOfNums (bunL f h l), true) else (⟨#[]⟩, false)
theorem putE_len2 {e : ApiEvent} (h : okE e) (hv : validE e = true) : 2 ≤ (putE e).length ∧ (putE e).length ≤ 110 := by
  obtain ⟨t, e1, e2, e3⟩ := put_shape h hv
  rw [e1]; simp only [List.length_cons]; omega
theorem recL_len {e : ApiEvent} (h : okE e) (hv : validE e = true) : 3 ≤ (recL e).length ∧ (recL e).length ≤ 118 := by
  have a := putE_len2 h hv
  have b := clampN_len ((putE e).length : Int)
  have c := numL_pos (clampN ((putE e).length : Int))
  simp only [recL, List.length_append]; omega
theorem recL_isB {e : ApiEvent} (h : okE e) : isB (recL e) := isB_app (numL_isB _) (putE_isB h)
theorem recs_isB {l : List ApiEvent} (h : okL l) : isB (l.flatMap recL) := isB_flat fun e he => recL_isB (h e he)
theorem headL_isB {f : Int} {h : List Int} {n : Nat} (hh : isB h) : isB (headL f h n) := by
  have c : isB [67, 69, 78, 79] := by intro x hx; simp at hx; omega
  exact isB_app c (isB_app (numL_isB _) (isB_app hh (numL_isB _)))
theorem bunL_isB {f : Int} {h : List Int} {l : List ApiEvent} (hh : isB h) (hl : okL l) : isB (bunL f h l) := isB_app (headL_isB hh) (recs_isB hl)
theorem headL_len (f : Int) {h : List Int} (n : Nat) (hh : h.length = 32) : (headL f h n).length ≤ 60 := by
  have a := clampN_len f
  have b := clampN_len (n : Int)
  simp only [headL, List.length_append, List.length_cons, List.length_nil]; omega
theorem cE_eq : (⟨#[67, 69, 78, 79]⟩ : ByteArray) = strOfNums [67, 69, 78, 79] := rfl
theorem rtext_rec {e : ApiEvent} (h : okE e) (hv : validE e = true) : ref04_Text (strOfNums (putE e)) = some (strOfNums (recL e)) := by
  have := putE_len2 h hv
  rw [ref04_Text_eq _ (by rw [strOfNums_size]; omega), strOfNums_size, byts_strOfNums (putE_isB h)]; rfl
theorem rput_l0 {l : List ApiEvent} (hl : okL l) (hn : l.length ≤ 1000) (xs : List Int) (hx : xs.length ≤ 100) :
    ref11_Put.l0 l FU (strOfNums xs) 0 = some (if allV l = true then .inr (strOfNums (xs ++ l.flatMap recL)) else .inl ((⟨#[]⟩ : ByteArray), false)) := by
  have hL := LIM_val
  have := loopI l (by omega) (fun k i (s : List Int) => ref11_Put.l0 l k (strOfNums s) i) (fun r s => some (if allV r = true then .inr (strOfNums (s ++ r.flatMap recL)) else .inl ((⟨#[]⟩ : ByteArray), false))) (fun r s => s.length + 118 * r.length ≤ 1000000)
    (fun k s hd hI => by simp only [ref11_Put.l0, hd, List.flatMap_nil, List.append_nil]; rfl)
    (fun k i x r s hi hlen hm hd hg hx hw hI ih => by
      have hok := hl x hm
      simp only [List.length_cons] at hI
      simp only [ref11_Put.l0, hd, if_true, hg, and_self, hx, ref05_Put_eq hok, putR]
      cases hv : validE x with
      | false => simp [allV, hv]
      | true =>
        have hr := recL_len hok hv
        have hq : s.length + (recL x).length ≤ LIM := by omega
        simp only [if_true, Option.bind_some, Bool.not_true, Bool.false_eq_true, if_false, rtext_rec hok hv, strOfNums_size, strOfNums_append, hq, hw]
        rw [ih (s ++ recL x) (by rw [List.length_append]; omega)]
        simp [allV, hv]) xs (by omega)
  exact this
theorem rPut_eq {f : Int} {h : List Int} {l : List ApiEvent} (hh : h.length = 32) (hB : isB h) (hl : okL l) (hn : l.length ≤ 1000) : ref11_Put f h l = some (bunR f h l) := by
  have hL := LIM_val
  unfold ref11_Put bunR bunOk
  by_cases c0 : f < 0
  · have d : ¬ 0 ≤ f := by omega
    simp [c0, d]
  · have d0 : decide (f < 0) = false := by simpa using c0
    have e0 : decide (0 ≤ f) = true := by simp; omega
    simp only [d0, Bool.false_eq_true, if_false, Option.bind_some, e0, Bool.true_and]
    by_cases c1 : f > 400
    · have : ¬ f ≤ 400 := by omega
      simp [c1, this]
    · by_cases c2 : (l.length : Int) > 400
      · have : ¬ l.length ≤ 400 := by omega
        simp [c1, c2, this]
      · have d1 : decide (f > 400) = false := by simpa using c1
        have d2 : decide ((l.length : Int) > 400) = false := by simpa using c2
        have q1 : f ≤ 400 := by omega
        have q2 : l.length ≤ 400 := by omega
        have a := clampN_len f
        have b := clampN_len (l.length : Int)
        have hhd := headL_len f l.length hh
        have e : ((([67, 69, 78, 79] : List Int) ++ numL (clampN f)) ++ h) ++ numL (clampN (l.length : Int)) = headL f h l.length := by simp [headL]
        simp only [d1, d2, Bool.false_eq_true, if_false, ref04_Num_eq, Option.bind_some, cE_eq, strOfNums_append, strOfNums_size, ref04_Sum_eq hh]
        rw [if_pos (by simp only [List.length_cons, List.length_nil]; omega), if_pos (by simp only [List.length_append, List.length_cons, List.length_nil]; omega), if_pos (by simp only [List.length_append, List.length_cons, List.length_nil]; omega), e]
        rw [rput_l0 hl hn _ (by omega)]
        simp only [q1, q2, decide_true, Bool.true_and]
        cases hv : allV l with
        | false => simp
        | true => rfl
end Go.Cen
