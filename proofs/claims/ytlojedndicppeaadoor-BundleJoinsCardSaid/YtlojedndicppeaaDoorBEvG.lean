/- EVENT: what was put is got again. -/
import Derived.Test.YtlojedndicppeaaDoorBShaD
import Derived.Test.YtlojedndicppeaaDoorBUtf8A
set_option linter.unusedVariables false
set_option linter.unusedSimpArgs false
set_option maxRecDepth 100000
namespace Go.Cen
def tmplD : Dyn72 → Dyn72
  | .nil => .nil
  | .i94 _ => .i94 0
  | .i90 _ => .i90 ⟨#[]⟩
  | .i95 _ => .i95 z32
def goodD (d : Dyn72) : Prop := match d with | .nil => False | .i94 x => 0 ≤ x ∧ x ≤ 1125899906842624 | .i90 s => s.size ≤ 100 | .i95 d => d.length = 32 ∧ isB d
theorem getR_num {a : Int} (h0 : 0 ≤ a) (h : a ≤ 1125899906842624) (r : List Int) : getR (numL (clampN a) ++ r) = (a, r, true) := by
  unfold getR
  rw [getN_numL _ _ (clampN_le a)]
  simp [clampN_id h0 h]
theorem gnum {a : Int} (h0 : 0 ≤ a) (h : a ≤ 1125899906842624) {r : List Int} (hr : isB r) : wire_GetNum (strOfNums (numL (clampN a) ++ r)) = some (a, strOfNums r, true) := by
  rw [wire_GetNum_eq _ (isB_app (numL_isB _) hr), getR_num h0 h]
theorem gtext {s : ByteArray} (h : s.size ≤ 100) {r : List Int} (hr : isB r) : wire_GetText (strOfNums ((numL (clampN (s.size : Int)) ++ byts s) ++ r)) 100 = some (s, strOfNums r, true) := by
  unfold wire_GetText wire_text
  rw [List.append_assoc, gnum (by omega) (by omega) (isB_app (byts_isB s) hr)]
  simp only [Option.bind_some, Bool.not_true, Bool.false_eq_true, if_false, strOfNums_size, List.length_append, byts_len]
  have c : ¬ ((s.size : Int) > (if (100 : Int) < ((s.size + r.length : Nat) : Int) then 100 else ((s.size + r.length : Nat) : Int))) := by split <;> omega
  have g1 : (0 : Int) ≤ 0 ∧ (0 : Int) ≤ (s.size : Int) ∧ (s.size : Int) ≤ ((s.size + r.length : Nat) : Int) := by omega
  have g2 : (0 : Int) ≤ (s.size : Int) ∧ (s.size : Int) ≤ ((s.size + r.length : Nat) : Int) ∧ ((s.size + r.length : Nat) : Int) ≤ ((s.size + r.length : Nat) : Int) := by omega
  have e1 : sx (strOfNums (byts s ++ r)) 0 (s.size : Int) = s := by
    rw [sx_str]
    have : (s.size : Int).toNat = (byts s).length := by rw [byts_len]; omega
    rw [this, List.take_left]; simp [strOfNums_byts]
  have e2 : sx (strOfNums (byts s ++ r)) (s.size : Int) ((s.size + r.length : Nat) : Int) = strOfNums r := by
    rw [sx_str]
    have h1 : ((s.size + r.length : Nat) : Int).toNat = (byts s ++ r).length := by rw [List.length_append, byts_len]; omega
    have h2 : (s.size : Int).toNat = (byts s).length := by rw [byts_len]; omega
    rw [h1, List.take_length, h2, List.drop_left]
  simp only [c, decide_false, Bool.false_eq_true, if_false, Option.bind_some, g1, g2, and_self, if_true, e1, e2]
  rfl
theorem gsum {d : List Int} (h : d.length = 32) (hd : isB d) {r : List Int} (hr : isB r) : wire_GetSum (strOfNums (d ++ r)) = some (d, strOfNums r, true) := by
  unfold wire_GetSum
  have hsz : ((strOfNums (d ++ r)).size : Int) = ((32 + r.length : Nat) : Int) := by rw [strOfNums_size, List.length_append, h]
  have c : ¬ (((32 + r.length : Nat) : Int) < 32) := by omega
  have g1 : (0 : Int) ≤ 0 ∧ (0 : Int) ≤ 32 ∧ (32 : Int) ≤ ((32 + r.length : Nat) : Int) := by omega
  have g2 : (0 : Int) ≤ 32 ∧ (32 : Int) ≤ ((32 + r.length : Nat) : Int) ∧ ((32 + r.length : Nat) : Int) ≤ ((32 + r.length : Nat) : Int) := by omega
  have e1 : sx (strOfNums (d ++ r)) 0 32 = strOfNums d := by
    rw [sx_str]
    have : (32 : Int).toNat = d.length := by rw [h]; rfl
    rw [this, List.take_left]; simp
  have e2 : sx (strOfNums (d ++ r)) 32 ((32 + r.length : Nat) : Int) = strOfNums r := by
    rw [sx_str]
    have h1 : ((32 + r.length : Nat) : Int).toNat = (d ++ r).length := by rw [List.length_append, h]; omega
    have h2 : (32 : Int).toNat = d.length := by rw [h]; rfl
    rw [h1, List.take_length, h2, List.drop_left]
  have hlim : (strOfNums d).size ≤ LIM := by rw [strOfNums_size, h]; decide
  rw [hsz]
  simp only [c, decide_false, Bool.false_eq_true, if_false, g1, g2, and_self, if_true, e1, e2, hlim, byts_strOfNums hd, h]
  rfl
theorem get_eq {d : Dyn72} (h : goodD d) {r : List Int} (hr : isB r) : event_get (tmplD d) (strOfNums (bytD d ++ r)) = some (d, strOfNums r, true) := by
  cases d with
  | nil => exact h.elim
  | i94 x => simp only [event_get, tmplD, bytD, Option.bind_some, gnum h.1 h.2 hr]
  | i90 s =>
    have h' : s.size ≤ 100 := h
    simp only [event_get, tmplD, bytD, Option.bind_some, gtext h' hr]
  | i95 d =>
    have hz : z32.length = 32 := by simp [z32]
    simp only [event_get, tmplD, bytD, hz, if_true, Option.bind_some, gsum h.1 h.2 hr]
theorem set_mid {α : Type} (a : List α) (x y : α) (b : List α) : st (a ++ x :: b) (a.length : Int) y = (a ++ [y]) ++ b := by
  unfold st
  have : (a.length : Int).toNat = a.length := by omega
  rw [this, List.set_append_right _ _ (Nat.le_refl _)]
  simp
theorem gt_mid {α : Type} [Inhabited α] (a : List α) (x : α) (b : List α) : gt (a ++ x :: b) (a.length : Int) = x := by
  rw [gt_nat _ a.length (by simp)]
  simp
theorem Get_l0 (T : List Dyn72) (r : List Int) (hr : isB r) : ∀ (todo done : List Dyn72) (k : Nat), (∀ d ∈ todo, goodD d) → done.length + todo.length = T.length → T.length ≤ 1000 → todo.length < k →
    event_Get.l0 T k (strOfNums (todo.flatMap bytD ++ r)) (done ++ todo.map tmplD) (done.length : Int) = some (.inr (strOfNums r, done ++ todo))
  | [], done, k, _, h2, h3, h4 => by
    obtain ⟨k, rfl⟩ : ∃ m, k = m + 1 := ⟨k - 1, by omega⟩
    have hd : decide ((done.length : Int) < (T.length : Int)) = false := by simp at h2 ⊢; omega
    simp only [event_Get.l0, hd, Bool.false_eq_true, if_false]
    simp
  | d :: t, done, k, h1, h2, h3, h4 => by
    obtain ⟨k, rfl⟩ : ∃ m, k = m + 1 := ⟨k - 1, by omega⟩
    have hg : goodD d := h1 d (by simp)
    have ht : ∀ x ∈ t, goodD x := fun x hx => h1 x (by simp [hx])
    have hok : ∀ x ∈ t, okD x := fun x hx => by
      have := ht x hx
      cases x with
      | nil => exact this
      | i94 a => trivial
      | i90 s => have q : s.size ≤ 100 := this; show s.size ≤ 100000; omega
      | i95 d => exact this
    have hB : isB (t.flatMap bytD ++ r) := isB_app (isB_flat fun x hx => bytD_isB (hok x hx)) hr
    simp only [List.length_cons] at h2 h4
    have hd : decide ((done.length : Int) < (T.length : Int)) = true := by simp; omega
    have hl : (0 : Int) ≤ (done.length : Int) ∧ (done.length : Int) < ((done ++ tmplD d :: t.map tmplD).length : Int) := by
      simp only [List.length_append, List.length_cons, List.length_map]; omega
    have hw : wi64 ((done.length : Int) + 1) = (((done ++ [d]).length : Nat) : Int) := by rw [wi64_id (by omega)]; simp
    have ih := Get_l0 T r hr t (done ++ [d]) k ht (by simp only [List.length_append, List.length_cons, List.length_nil]; omega) h3 (by omega)
    simp only [event_Get.l0, hd, if_true, List.map_cons, hl, and_self, gt_mid, List.flatMap_cons, List.append_assoc, get_eq hg hB, Option.bind_some, Bool.not_true, Bool.false_eq_true, if_false]
    rw [set_mid, hw, ih]
    simp
theorem parts_tmpl (e : ApiEvent) : partsE ⟨e.Kind, 0, ⟨#[]⟩, 0, 0, z32⟩ = (partsE e).map tmplD := by
  rcases kinds e.Kind with k | k | k | k | k | k | k | k | ⟨k0, k4, k5, k1, k2, k3, k6, k7⟩
  all_goals first
    | (simp [partsE, k, tmplD]; done)
    | (simp [partsE, k0, k1, k2, k3, k4, k5, k6, k7])
theorem parts_good {e : ApiEvent} (h : okE e) (hN : e.Name.size ≤ 100) (hv : validE e = true) : ∀ d ∈ partsE e, goodD d := by
  obtain ⟨n1, n2, n3⟩ := valid_nums h hv
  have a1 : 0 ≤ e.ID ∧ e.ID ≤ 1125899906842624 := by omega
  have a2 : 0 ≤ e.Time ∧ e.Time ≤ 1125899906842624 := by omega
  have a3 : 0 ≤ e.Len ∧ e.Len ≤ 1125899906842624 := by omega
  intro d hd
  unfold partsE at hd
  repeat' split at hd
  all_goals simp at hd
  · rcases hd with rfl | rfl
    · exact a1
    · exact hN
  · rcases hd with rfl | rfl
    · exact a1
    · exact a3
  · rcases hd with rfl | rfl | rfl | rfl
    · exact a1
    · exact a2
    · exact a3
    · exact h.2
  · rcases hd with rfl | rfl
    · exact a1
    · exact a2
  · subst hd; exact a1
  · subst hd; exact a2
theorem Get_put {e : ApiEvent} (h : okE e) (hN : e.Name.size ≤ 100) (hv : validE e = true) {r : List Int} (hr : isB r) : event_Get (strOfNums (putE e ++ r)) = some (e, strOfNums r, true) := by
  have hk := valid_kind hv
  have hp := parts_ok h
  obtain ⟨f1, f2, f3⟩ := valid_form h hv
  have hB : isB ((partsE e).flatMap bytD ++ r) := isB_app (isB_flat fun x hx => bytD_isB (hp x hx)) hr
  have hlen := parts_len e
  have hF : FU = 4611686018427387904 := rfl
  unfold event_Get putE
  rw [List.append_assoc, gnum (by omega) (by omega) hB]
  have hk8 : ¬ e.Kind ≥ 8 := by omega
  have hpe : event_parts (ApiEvent.mk e.Kind 0 (⟨#[]⟩ : ByteArray) 0 0 (List.replicate 32 (0 : Int))) = some ((partsE e).map tmplD) := by
    rw [parts_eq]; exact congrArg some (parts_tmpl e)
  have hl := Get_l0 ((partsE e).map tmplD) r hr (partsE e) [] FU (parts_good h hN hv) (by simp) (by simp; omega) (by omega)
  simp only [List.nil_append, List.length_nil] at hl
  have hl' : event_Get.l0 ((partsE e).map tmplD) FU (strOfNums ((partsE e).flatMap bytD ++ r)) ((partsE e).map tmplD) 0 = some (.inr (strOfNums r, partsE e)) := hl
  have ho := of_eq h f1
  rw [f2] at ho
  simp only [Option.bind_some, Bool.not_true, Bool.false_eq_true, if_false, event_words, hk8, decide_false, hpe, hl', ho, event_Valid_eq h, hv]
end Go.Cen

/- EVENT: how long; what is not told. -/
set_option linter.unusedVariables false
set_option linter.unusedSimpArgs false
set_option maxRecDepth 100000
namespace Go.Cen
theorem len_cnt : ∀ l, isB l → l.length ≤ 4 * cnt l := by
  refine seg_ind (by simp [cnt_nil]) fun l hl hB ih => ?_
  rw [cnt_cons hl]
  have := dec_w l hl
  simp only [List.length_drop] at ih
  omega
theorem nm_small {s : ByteArray} (h : nmOk s = true) : s.size ≤ 96 := by
  unfold nmOk validN at h
  simp only [Bool.and_eq_true, decide_eq_true_eq] at h
  have := len_cnt (byts s) (byts_isB s)
  rw [byts_len] at this
  omega
theorem num6 {a : Int} (h0 : 0 ≤ a) (h : a ≤ 1099511627776) : (numL (clampN a)).length ≤ 6 := numL_len 5 _ (by have := clampN_id h0 (show a ≤ 1125899906842624 by omega); omega)
theorem num1 {a : Int} (h0 : 0 ≤ a) (h : a ≤ 127) : numL (clampN a) = [a] := by
  have := clampN_id h0 (show a ≤ 1125899906842624 by omega)
  rw [numL_lt (by omega), this]
theorem num2 {a : Int} (h0 : 0 ≤ a) (h : a ≤ 600) : (numL (clampN a)).length ≤ 2 := numL_len 1 _ (by have := clampN_id h0 (show a ≤ 1125899906842624 by omega); omega)
theorem valid_name {e : ApiEvent} (hv : validE e = true) : e.Name.size ≤ 96 := by
  have he : (⟨#[]⟩ : ByteArray).size = 0 := rfl
  rcases kinds e.Kind with k | k | k | k | k | k | k | k | ⟨k0, k4, k5, k1, k2, k3, k6, k7⟩
  case inr.inr.inr.inr.inr.inr.inr.inr => simp [validE, k0, k1, k2, k3, k4, k5, k6, k7] at hv
  all_goals simp [validE, k] at hv
  all_goals first
    | exact nm_small hv.2.1
    | (have := (noS_eq _).1 hv.2.1; rw [this, he]; omega)
theorem put_shape {e : ApiEvent} (h : okE e) (hv : validE e = true) : ∃ t, putE e = e.Kind :: t ∧ 1 ≤ t.length ∧ t.length ≤ 109 := by
  have hk := valid_kind hv
  obtain ⟨⟨i1, i2⟩, ⟨t1, t2⟩, ⟨l1, l2⟩⟩ := valid_nums h hv
  have hn := valid_name hv
  refine ⟨(partsE e).flatMap bytD, by unfold putE; rw [num1 (by omega) (by omega)]; rfl, ?_⟩
  have a1 := num6 i1 i2; have a2 := num6 t1 t2; have a3 := num2 l1 l2
  have p1 := numL_pos (clampN e.ID); have p2 := numL_pos (clampN e.Time); have p3 := numL_pos (clampN e.Len)
  have a4 : numL (clampN (e.Name.size : Int)) = [(e.Name.size : Int)] := num1 (by omega) (by omega)
  have a5 := h.2.1
  have hb := byts_len e.Name
  rcases kinds e.Kind with k | k | k | k | k | k | k | k | ⟨k0, k4, k5, k1, k2, k3, k6, k7⟩
  case inr.inr.inr.inr.inr.inr.inr.inr => simp [validE, k0, k1, k2, k3, k4, k5, k6, k7] at hv
  · rw [show partsE e = [.i94 e.ID, .i90 e.Name] from by simp [partsE, k]]
    simp [bytD, a4, hb]; omega
  · rw [show partsE e = [.i94 e.ID, .i90 e.Name] from by simp [partsE, k]]
    simp [bytD, a4, hb]; omega
  · rw [show partsE e = [.i94 e.ID, .i90 e.Name] from by simp [partsE, k]]
    simp [bytD, a4, hb]; omega
  · rw [show partsE e = [.i94 e.ID, .i94 e.Len] from by simp [partsE, k]]
    simp [bytD]; omega
  · rw [show partsE e = [.i94 e.ID, .i94 e.Time, .i94 e.Len, .i95 e.Sum] from by simp [partsE, k]]
    simp [bytD, a5]; omega
  · rw [show partsE e = [.i94 e.ID, .i94 e.Time] from by simp [partsE, k]]
    simp [bytD]; omega
  · rw [show partsE e = [.i94 e.ID] from by simp [partsE, k]]
    simp [bytD]; omega
  · rw [show partsE e = [.i94 e.Time] from by simp [partsE, k]]
    simp [bytD]; omega
end Go.Cen

/- EVENT: what is got from any bytes. -/
set_option linter.unusedVariables false
set_option linter.unusedSimpArgs false
set_option maxRecDepth 100000
namespace Go.Cen
def isT (d : Dyn72) : Prop := d ≠ .nil ∧ tmplD d = d
theorem wire_num_cases {xs : List Int} (hx : isB xs) : wire_GetNum (strOfNums xs) = some (0, ⟨#[]⟩, false) ∨ ∃ (n : Int) (r : List Int), 0 ≤ n ∧ n ≤ 1125899906842624 ∧ isB r ∧ xs = numL (clampN n) ++ r ∧ wire_GetNum (strOfNums xs) = some (n, strOfNums r, true) := by
  rw [wire_GetNum_eq _ hx]
  unfold getR
  cases h : getN xs with
  | none => left; rfl
  | some p =>
    obtain ⟨n, r⟩ := p
    obtain ⟨h1, h2⟩ := getN_inv hx h
    right
    have hc : clampN (n : Int) = n := by have := clampN_id (a := (n : Int)) (by omega) (by omega); omega
    refine ⟨(n : Int), r, by omega, by omega, ?_, by rw [hc]; exact h1, rfl⟩
    intro y hy; exact hx y (by rw [h1]; simp [hy])
theorem text_cases {xs : List Int} (hx : isB xs) (hn : xs.length ≤ 1000000) : (∃ a b, wire_GetText (strOfNums xs) 100 = some (a, b, false)) ∨ ∃ (s : ByteArray) (r : List Int), s.size ≤ 100 ∧ isB r ∧ xs = (numL (clampN (s.size : Int)) ++ byts s) ++ r ∧ wire_GetText (strOfNums xs) 100 = some (s, strOfNums r, true) := by
  rcases wire_num_cases hx with h | ⟨n, r, h0, h1, hr, he, h⟩
  · left; unfold wire_GetText wire_text; rw [h]; exact ⟨_, _, rfl⟩
  · by_cases c : n > (if (100 : Int) < (r.length : Int) then 100 else (r.length : Int))
    · left; unfold wire_GetText wire_text; rw [h]
      simp only [Option.bind_some, Bool.not_true, Bool.false_eq_true, if_false, strOfNums_size, c, decide_true, if_true]
      exact ⟨_, _, rfl⟩
    · right
      have hn1 : n ≤ 100 := by split at c <;> omega
      have hn2 : n ≤ (r.length : Int) := by split at c <;> omega
      obtain ⟨m, rfl⟩ : ∃ m : Nat, n = (m : Int) := ⟨n.toNat, by omega⟩
      have hB1 : isB (r.take m) := isB_take hr m
      have hb : byts (strOfNums (r.take m)) = r.take m := byts_strOfNums hB1
      have hsz : (strOfNums (r.take m)).size = m := by rw [strOfNums_size, List.length_take]; omega
      have e : xs = (numL (clampN ((strOfNums (r.take m)).size : Int)) ++ byts (strOfNums (r.take m))) ++ r.drop m := by rw [hsz, hb, List.append_assoc, List.take_append_drop]; exact he
      refine ⟨strOfNums (r.take m), r.drop m, by omega, isB_drop hr m, e, ?_⟩
      have := gtext (s := strOfNums (r.take m)) (by omega) (isB_drop hr m)
      rw [← e] at this
      exact this
theorem sum_cases {xs : List Int} (hx : isB xs) : (∃ a b, wire_GetSum (strOfNums xs) = some (a, b, false)) ∨ ∃ (d r : List Int), d.length = 32 ∧ isB d ∧ isB r ∧ xs = d ++ r ∧ wire_GetSum (strOfNums xs) = some (d, strOfNums r, true) := by
  by_cases c : xs.length < 32
  · left; unfold wire_GetSum
    have : ((strOfNums xs).size : Int) < 32 := by rw [strOfNums_size]; omega
    simp only [this, decide_true, if_true]
    exact ⟨_, _, rfl⟩
  · right
    have e : xs = xs.take 32 ++ xs.drop 32 := (List.take_append_drop 32 xs).symm
    have hl : (xs.take 32).length = 32 := by rw [List.length_take]; omega
    refine ⟨xs.take 32, xs.drop 32, hl, isB_take hx 32, isB_drop hx 32, e, ?_⟩
    have := gsum hl (isB_take hx 32) (isB_drop hx 32)
    rw [← e] at this
    exact this
theorem get_cases {d : Dyn72} (hd : isT d) {xs : List Int} (hx : isB xs) (hn : xs.length ≤ 1000000) : (∃ a b, event_get d (strOfNums xs) = some (a, b, false)) ∨ ∃ (v : Dyn72) (r : List Int), goodD v ∧ tmplD v = d ∧ isB r ∧ xs = bytD v ++ r ∧ event_get d (strOfNums xs) = some (v, strOfNums r, true) := by
  cases d with
  | nil => exact absurd rfl hd.1
  | i94 x =>
    rcases wire_num_cases hx with h | ⟨n, r, h0, h1, hr, he, h⟩
    · left; simp only [event_get, Option.bind_some, h]; exact ⟨_, _, rfl⟩
    · right; exact ⟨.i94 n, r, ⟨h0, h1⟩, by rw [← hd.2]; rfl, hr, he, by simp only [event_get, Option.bind_some, h]⟩
  | i90 s =>
    rcases text_cases hx hn with ⟨a, b, h⟩ | ⟨s', r, h1, hr, he, h⟩
    · left; simp only [event_get, Option.bind_some, h]; exact ⟨_, _, rfl⟩
    · right; exact ⟨.i90 s', r, h1, by rw [← hd.2]; rfl, hr, he, by simp only [event_get, Option.bind_some, h]⟩
  | i95 z =>
    have hz : z.length = 32 := by have := hd.2; simp only [tmplD, Dyn72.i95.injEq] at this; rw [← this]; simp [z32]
    rcases sum_cases hx with ⟨a, b, h⟩ | ⟨d', r, h1, h2, hr, he, h⟩
    · left; simp only [event_get, hz, if_true, Option.bind_some, h]; exact ⟨_, _, rfl⟩
    · right; exact ⟨.i95 d', r, ⟨h1, h2⟩, by rw [← hd.2]; rfl, hr, he, by simp only [event_get, hz, if_true, Option.bind_some, h]⟩
abbrev evZ : ApiEvent := ⟨0, 0, ⟨#[]⟩, 0, 0, z32⟩
theorem Get_any_l0 (T : List Dyn72) (hT : T.length ≤ 1000) : ∀ (todo done : List Dyn72) (k : Nat) (xs : List Int), (∀ d ∈ todo, isT d) → isB xs → xs.length ≤ 1000000 → done.length + todo.length = T.length → todo.length < k →
    event_Get.l0 T k (strOfNums xs) (done ++ todo) (done.length : Int) = some (.inl (evZ, ⟨#[]⟩, false)) ∨
    ∃ (vals : List Dyn72) (r : List Int), vals.map tmplD = todo ∧ (∀ d ∈ vals, goodD d) ∧ isB r ∧ xs = vals.flatMap bytD ++ r ∧ event_Get.l0 T k (strOfNums xs) (done ++ todo) (done.length : Int) = some (.inr (strOfNums r, done ++ vals))
  | [], done, k, xs, _, hx, hn, h2, h4 => by
    obtain ⟨k, rfl⟩ : ∃ m, k = m + 1 := ⟨k - 1, by omega⟩
    have hd : decide ((done.length : Int) < (T.length : Int)) = false := by simp at h2 ⊢; omega
    right
    exact ⟨[], xs, rfl, (fun d h => nomatch h), hx, rfl, (by simp only [event_Get.l0, hd, Bool.false_eq_true, if_false])⟩
  | d :: t, done, k, xs, h1, hx, hn, h2, h4 => by
    obtain ⟨k, rfl⟩ : ∃ m, k = m + 1 := ⟨k - 1, by omega⟩
    simp only [List.length_cons] at h2 h4
    have hd : decide ((done.length : Int) < (T.length : Int)) = true := by simp; omega
    have hl : (0 : Int) ≤ (done.length : Int) ∧ (done.length : Int) < ((done ++ d :: t).length : Int) := by simp only [List.length_append, List.length_cons]; omega
    rcases get_cases (h1 d (by simp)) hx hn with ⟨a, b, h⟩ | ⟨v, r, g1, g2, hr, he, h⟩
    · left
      simp only [event_Get.l0, hd, if_true, hl, and_self, gt_mid, h, Option.bind_some, Bool.not_false]
      rfl
    · have hw : wi64 ((done.length : Int) + 1) = (((done ++ [v]).length : Nat) : Int) := by rw [wi64_id (by omega)]; simp
      have hrl : r.length ≤ 1000000 := by have := congrArg List.length he; rw [List.length_append] at this; omega
      have key : event_Get.l0 T (k + 1) (strOfNums xs) (done ++ d :: t) (done.length : Int) = event_Get.l0 T k (strOfNums r) ((done ++ [v]) ++ t) (((done ++ [v]).length : Nat) : Int) := by
        simp only [event_Get.l0, hd, if_true, hl, and_self, gt_mid, h, Option.bind_some, Bool.not_true, Bool.false_eq_true, if_false]
        rw [set_mid, hw]
      rw [key]
      rcases Get_any_l0 T hT t (done ++ [v]) k r (fun x hx => h1 x (by simp [hx])) hr hrl (by simp only [List.length_append, List.length_cons, List.length_nil]; omega) (by omega) with q | ⟨vals, r', q1, q2, q3, q4, q5⟩
      · left; exact q
      · right
        refine ⟨v :: vals, r', by simp [q1, g2], ?_, q3, by rw [he, q4]; simp, by rw [q5]; simp⟩
        intro x hx
        rcases List.mem_cons.1 hx with e | e
        · rw [e]; exact g1
        · exact q2 x e
theorem tm68 {v : Dyn72} {x : Int} (h : tmplD v = .i94 x) : ∃ a, v = .i94 a := by cases v <;> simp [tmplD] at h ⊢
theorem tm53 {v : Dyn72} {x : ByteArray} (h : tmplD v = .i90 x) : ∃ a, v = .i90 a := by cases v <;> simp [tmplD] at h ⊢
theorem tm71 {v : Dyn72} {x : List Int} (h : tmplD v = .i95 x) : ∃ a, v = .i95 a := by cases v <;> simp [tmplD] at h ⊢
theorem map_cons' {vals t : List Dyn72} {f : Dyn72} (h : vals.map tmplD = f :: t) : ∃ v r, vals = v :: r ∧ tmplD v = f ∧ r.map tmplD = t := by
  cases vals with
  | nil => cases h
  | cons v r => simp only [List.map_cons, List.cons.injEq] at h; exact ⟨v, r, rfl, h.1, h.2⟩
theorem map_nil' {vals : List Dyn72} (h : vals.map tmplD = []) : vals = [] := by simpa using h
theorem z32_ok : z32.length = 32 ∧ isB z32 := ⟨by simp [z32], fun x hx => by rw [List.eq_of_mem_replicate hx]; omega⟩
theorem ev_of {n : Int} {vals : List Dyn72} (hn : 0 ≤ n ∧ n < 8) (h : vals.map tmplD = partsE ⟨n, 0, ⟨#[]⟩, 0, 0, z32⟩) (hg : ∀ d ∈ vals, goodD d) : ∃ e : ApiEvent, e.Kind = n ∧ partsE e = vals ∧ ofE e = e ∧ okE e ∧ e.Name.size ≤ 100 := by
  have hz := z32_ok
  have h0 : (⟨#[]⟩ : ByteArray).size = 0 := rfl
  rcases kinds n with k | k | k | k | k | k | k | k | ⟨k0, k4, k5, k1, k2, k3, k6, k7⟩
  case inr.inr.inr.inr.inr.inr.inr.inr => omega
  all_goals subst k
  all_goals simp [partsE] at h
  · obtain ⟨v, r, rfl, e1, h⟩ := map_cons' h
    obtain ⟨w, r, rfl, e2, h⟩ := map_cons' h
    obtain rfl := map_nil' h
    obtain ⟨a, rfl⟩ := tm68 e1; obtain ⟨s, rfl⟩ := tm53 e2
    have hs : s.size ≤ 100 := hg (.i90 s) (by simp)
    exact ⟨⟨0, a, s, 0, 0, z32⟩, rfl, rfl, rfl, ⟨by show s.size ≤ _; omega, hz⟩, hs⟩
  · obtain ⟨v, r, rfl, e1, h⟩ := map_cons' h
    obtain ⟨w, r, rfl, e2, h⟩ := map_cons' h
    obtain rfl := map_nil' h
    obtain ⟨a, rfl⟩ := tm68 e1; obtain ⟨s, rfl⟩ := tm53 e2
    have hs : s.size ≤ 100 := hg (.i90 s) (by simp)
    exact ⟨⟨4, a, s, 0, 0, z32⟩, rfl, rfl, rfl, ⟨by show s.size ≤ _; omega, hz⟩, hs⟩
  · obtain ⟨v, r, rfl, e1, h⟩ := map_cons' h
    obtain ⟨w, r, rfl, e2, h⟩ := map_cons' h
    obtain rfl := map_nil' h
    obtain ⟨a, rfl⟩ := tm68 e1; obtain ⟨s, rfl⟩ := tm53 e2
    have hs : s.size ≤ 100 := hg (.i90 s) (by simp)
    exact ⟨⟨5, a, s, 0, 0, z32⟩, rfl, rfl, rfl, ⟨by show s.size ≤ _; omega, hz⟩, hs⟩
  · obtain ⟨v, r, rfl, e1, h⟩ := map_cons' h
    obtain ⟨w, r, rfl, e2, h⟩ := map_cons' h
    obtain rfl := map_nil' h
    obtain ⟨a, rfl⟩ := tm68 e1; obtain ⟨b, rfl⟩ := tm68 e2
    exact ⟨⟨1, a, ⟨#[]⟩, 0, b, z32⟩, rfl, rfl, rfl, ⟨by show (0 : Nat) ≤ _; omega, hz⟩, by show (0 : Nat) ≤ _; omega⟩
  · obtain ⟨v, r, rfl, e1, h⟩ := map_cons' h
    obtain ⟨w, r, rfl, e2, h⟩ := map_cons' h
    obtain ⟨x, r, rfl, e3, h⟩ := map_cons' h
    obtain ⟨y, r, rfl, e4, h⟩ := map_cons' h
    obtain rfl := map_nil' h
    obtain ⟨a, rfl⟩ := tm68 e1; obtain ⟨b, rfl⟩ := tm68 e2; obtain ⟨c, rfl⟩ := tm68 e3; obtain ⟨d, rfl⟩ := tm71 e4
    have hd : d.length = 32 ∧ isB d := hg (.i95 d) (by simp)
    exact ⟨⟨2, a, ⟨#[]⟩, b, c, d⟩, rfl, rfl, rfl, ⟨by show (0 : Nat) ≤ _; omega, hd⟩, by show (0 : Nat) ≤ _; omega⟩
  · obtain ⟨v, r, rfl, e1, h⟩ := map_cons' h
    obtain ⟨w, r, rfl, e2, h⟩ := map_cons' h
    obtain rfl := map_nil' h
    obtain ⟨a, rfl⟩ := tm68 e1; obtain ⟨b, rfl⟩ := tm68 e2
    exact ⟨⟨3, a, ⟨#[]⟩, b, 0, z32⟩, rfl, rfl, rfl, ⟨by show (0 : Nat) ≤ _; omega, hz⟩, by show (0 : Nat) ≤ _; omega⟩
  · obtain ⟨v, rfl, e1⟩ := h
    obtain ⟨a, rfl⟩ := tm68 e1
    exact ⟨⟨6, a, ⟨#[]⟩, 0, 0, z32⟩, rfl, rfl, rfl, ⟨by show (0 : Nat) ≤ _; omega, hz⟩, by show (0 : Nat) ≤ _; omega⟩
  · obtain ⟨v, rfl, e1⟩ := h
    obtain ⟨a, rfl⟩ := tm68 e1
    exact ⟨⟨7, 0, ⟨#[]⟩, a, 0, z32⟩, rfl, rfl, rfl, ⟨by show (0 : Nat) ≤ _; omega, hz⟩, by show (0 : Nat) ≤ _; omega⟩
theorem parts_isT {n : Int} : ∀ d ∈ partsE ⟨n, 0, ⟨#[]⟩, 0, 0, z32⟩, isT d := by
  intro d hd
  unfold partsE at hd
  repeat' split at hd
  all_goals simp at hd
  all_goals (try (rcases hd with rfl | rfl | rfl | rfl) <;> exact ⟨by simp, rfl⟩)
  all_goals (try (rcases hd with rfl | rfl) <;> exact ⟨by simp, rfl⟩)
  all_goals (try (subst hd; exact ⟨by simp, rfl⟩))
theorem Get_any {xs : List Int} (hx : isB xs) (hn : xs.length ≤ 1000000) : event_Get (strOfNums xs) = some (evZ, ⟨#[]⟩, false) ∨ ∃ (e : ApiEvent) (r : List Int), okE e ∧ e.Name.size ≤ 100 ∧ validE e = true ∧ isB r ∧ xs = putE e ++ r ∧ event_Get (strOfNums xs) = some (e, strOfNums r, true) := by
  have hF : FU = 4611686018427387904 := rfl
  rcases wire_num_cases hx with h | ⟨n, r, h0, h1, hr, he, h⟩
  · left; unfold event_Get; rw [h]; rfl
  · by_cases h8 : n ≥ 8
    · left; unfold event_Get; rw [h]
      simp only [Option.bind_some, Bool.not_true, Bool.false_eq_true, if_false, event_words, h8, decide_true, if_true]
      rfl
    · have hrl : r.length ≤ 1000000 := by have := congrArg List.length he; rw [List.length_append] at this; omega
      have hpe : event_parts (ApiEvent.mk n 0 (⟨#[]⟩ : ByteArray) 0 0 (List.replicate 32 (0 : Int))) = some (partsE ⟨n, 0, ⟨#[]⟩, 0, 0, z32⟩) := parts_eq _
      have hl := parts_len ⟨n, 0, ⟨#[]⟩, 0, 0, z32⟩
      rcases Get_any_l0 (partsE ⟨n, 0, ⟨#[]⟩, 0, 0, z32⟩) (by omega) (partsE ⟨n, 0, ⟨#[]⟩, 0, 0, z32⟩) [] FU r parts_isT hr hrl (by simp) (by omega) with q | ⟨vals, r', q1, q2, q3, q4, q5⟩
      · left
        have q' : event_Get.l0 (partsE ⟨n, 0, ⟨#[]⟩, 0, 0, z32⟩) FU (strOfNums r) (partsE ⟨n, 0, ⟨#[]⟩, 0, 0, z32⟩) 0 = some (.inl (evZ, ⟨#[]⟩, false)) := q
        unfold event_Get; rw [h]
        simp only [Option.bind_some, Bool.not_true, Bool.false_eq_true, if_false, event_words, h8, decide_false, hpe, q']
      · obtain ⟨e, k1, k2, k3, k4, k5⟩ := ev_of ⟨h0, by omega⟩ q1 q2
        have q' : event_Get.l0 (partsE ⟨n, 0, ⟨#[]⟩, 0, 0, z32⟩) FU (strOfNums r) (partsE ⟨n, 0, ⟨#[]⟩, 0, 0, z32⟩) 0 = some (.inr (strOfNums r', vals)) := q5
        have hne : partsE e ≠ [] := by
          intro q
          rw [k2] at q
          rw [q] at q1
          have hh : partsE ⟨n, 0, ⟨#[]⟩, 0, 0, z32⟩ = [] := q1.symm
          unfold partsE at hh
          simp only at hh
          rcases kinds n with k | k | k | k | k | k | k | k | ⟨z0, z4, z5, z1, z2, z3, z6, z7⟩
          case inr.inr.inr.inr.inr.inr.inr.inr => omega
          all_goals simp [k] at hh
        have ho := of_eq k4 hne
        rw [k3, k1, k2] at ho
        have hv := event_Valid_eq k4
        cases hve : validE e with
        | false =>
          left
          rw [hve] at hv
          unfold event_Get; rw [h]
          simp only [Option.bind_some, Bool.not_true, Bool.false_eq_true, if_false, event_words, h8, decide_false, hpe, q', ho, hv, Bool.not_false, if_true]
          rfl
        | true =>
          right
          rw [hve] at hv
          refine ⟨e, r', k4, k5, hve, q3, ?_, ?_⟩
          · unfold putE; rw [k1, k2, he, q4, List.append_assoc]
          · unfold event_Get; rw [h]
            simp only [Option.bind_some, Bool.not_true, Bool.false_eq_true, if_false, event_words, h8, decide_false, hpe, q', ho, hv]
end Go.Cen

/- EVENT: what the document reads of any bytes. -/
set_option linter.unusedVariables false
set_option linter.unusedSimpArgs false
set_option maxRecDepth 100000
namespace Go.Cen
theorem rnum {a : Int} (h0 : 0 ≤ a) (h : a ≤ 1125899906842624) {r : List Int} (hr : isB r) : ref04_GetNum (strOfNums (numL (clampN a) ++ r)) = some (a, strOfNums r, true) := by
  rw [ref04_GetNum_eq _ (isB_app (numL_isB _) hr), getR_num h0 h]
theorem rnum_same {xs : List Int} (hx : isB xs) : ref04_GetNum (strOfNums xs) = wire_GetNum (strOfNums xs) := by rw [ref04_GetNum_eq _ hx, wire_GetNum_eq _ hx]
/-- what a text's reading gives -/
theorem rtext_cases {xs : List Int} (hx : isB xs) (hn : xs.length ≤ 1000000) : (ref04_GetText (strOfNums xs) 100 = some (⟨#[]⟩, ⟨#[]⟩, false) ∧ wire_GetText (strOfNums xs) 100 = some (⟨#[]⟩, ⟨#[]⟩, false)) ∨ ∃ (s : ByteArray) (r : List Int), s.size ≤ 100 ∧ isB r ∧ ref04_GetText (strOfNums xs) 100 = some (s, strOfNums r, true) ∧ wire_GetText (strOfNums xs) 100 = some (s, strOfNums r, true) := by
  rcases wire_num_cases hx with h | ⟨n, r, h0, h1, hr, he, h⟩
  · left; constructor
    · unfold ref04_GetText; rw [rnum_same hx, h]; rfl
    · unfold wire_GetText wire_text; rw [h]; rfl
  · by_cases c : n > (if (100 : Int) < (r.length : Int) then 100 else (r.length : Int))
    · left; constructor
      · unfold ref04_GetText; rw [rnum_same hx, h]
        have c2 : n > (r.length : Int) ∨ n > 100 := by split at c <;> omega
        simp only [Option.bind_some, Bool.not_true, Bool.false_eq_true, if_false, strOfNums_size]
        by_cases c3 : n > (r.length : Int)
        · simp [c3]
        · have c4 : n > 100 := c2.resolve_left c3
          simp [c3, c4]
      · unfold wire_GetText wire_text; rw [h]
        simp only [Option.bind_some, Bool.not_true, Bool.false_eq_true, if_false, strOfNums_size, c, decide_true, if_true]
        rfl
    · right
      have hn1 : n ≤ 100 := by split at c <;> omega
      have hn2 : n ≤ (r.length : Int) := by split at c <;> omega
      rcases text_cases hx hn with ⟨a, b, q⟩ | ⟨s, r', k1, k2, k3, q⟩
      · exfalso
        unfold wire_GetText wire_text at q; rw [h] at q
        have g1 : (0 : Int) ≤ 0 ∧ (0 : Int) ≤ n ∧ n ≤ (r.length : Int) := by omega
        have g2 : (0 : Int) ≤ n ∧ n ≤ (r.length : Int) ∧ (r.length : Int) ≤ (r.length : Int) := by omega
        simp only [Option.bind_some, Bool.not_true, Bool.false_eq_true, if_false, strOfNums_size, c, decide_false, g1, g2, and_self, if_true, wire_got_string_parts, Option.some.injEq, Prod.mk.injEq] at q
        simp at q
      · refine ⟨s, r', k1, k2, ?_, q⟩
        have q2 := q
        unfold wire_GetText wire_text at q2; rw [h] at q2
        unfold ref04_GetText; rw [rnum_same hx, h]
        have g1 : (0 : Int) ≤ 0 ∧ (0 : Int) ≤ n ∧ n ≤ (r.length : Int) := by omega
        have g2 : (0 : Int) ≤ n ∧ n ≤ (r.length : Int) ∧ (r.length : Int) ≤ (r.length : Int) := by omega
        have c3 : ¬ n > (r.length : Int) := by omega
        have c4 : ¬ n > 100 := by omega
        simp only [Option.bind_some, Bool.not_true, Bool.false_eq_true, if_false, strOfNums_size, c, decide_false, g1, g2, and_self, if_true, wire_got_string_parts] at q2
        simp only [Option.bind_some, Bool.not_true, Bool.false_eq_true, if_false, strOfNums_size, c3, c4, decide_false, g1, g2, and_self, if_true]
        exact q2
theorem rsum_l0 {xs : List Int} (hx : isB xs) (h32 : 32 ≤ xs.length) : ref04_GetSum.l0 (strOfNums xs) FU 0 (List.replicate 32 (0 : Int)) = some (xs.take 32) := by
  have := loopNI 32 (by omega) (fun k i (s : List Int) => ref04_GetSum.l0 (strOfNums xs) k i s) (fun i s => some (s.take i ++ (xs.drop i).take (32 - i))) (fun i s => s.length = 32)
    (fun k s hs => by
      have hd : decide (((32 : Nat) : Int) < 32) = false := by decide
      simp only [ref04_GetSum.l0, hd, Bool.false_eq_true, if_false]
      rw [List.take_of_length_le (by omega)]; simp)
    (fun k i hi hw s hs ih => by
      have hd : decide ((i : Int) < 32) = true := by simp; omega
      have hg : 0 ≤ (i : Int) ∧ (i : Int) < ((strOfNums xs).size : Int) := by rw [strOfNums_size]; omega
      have hg2 : 0 ≤ (i : Int) ∧ (i : Int) < 32 := by omega
      have hb : bt (strOfNums xs) (i : Int) = xs[i] := by rw [bt_str hx, gt_nat xs i (by omega)]
      have hst : (st s (i : Int) (xs[i])).length = 32 := by simp [st, hs]
      simp only [ref04_GetSum.l0, hd, if_true, hg, hg2, and_self, hb, hw]
      rw [ih _ hst]
      congr 1
      have hcons : xs.drop i = xs[i] :: xs.drop (i + 1) := List.drop_eq_getElem_cons (by omega)
      have e1 : (32 - i) = (32 - (i + 1)) + 1 := by omega
      rw [hcons, e1, List.take_succ_cons]
      have e2 : (st s (i : Int) (xs[i])).take (i + 1) = s.take i ++ [xs[i]] := by
        unfold st
        have : (i : Int).toNat = i := by omega
        rw [this, List.take_add_one, List.take_set_of_le (Nat.le_refl _), List.getElem?_set_self (by omega)]
        rfl
      rw [e2, List.append_assoc]; rfl) (List.replicate 32 0) (by simp)
  rw [this]; simp
theorem rsum_cases {xs : List Int} (hx : isB xs) : (ref04_GetSum (strOfNums xs) = some (z32, ⟨#[]⟩, false) ∧ wire_GetSum (strOfNums xs) = some (z32, ⟨#[]⟩, false)) ∨ ∃ (d r : List Int), d.length = 32 ∧ isB d ∧ isB r ∧ ref04_GetSum (strOfNums xs) = some (d, strOfNums r, true) ∧ wire_GetSum (strOfNums xs) = some (d, strOfNums r, true) := by
  by_cases c : xs.length < 32
  · left
    have : ((strOfNums xs).size : Int) < 32 := by rw [strOfNums_size]; omega
    constructor
    · unfold ref04_GetSum; simp only [this, decide_true, if_true]; rfl
    · unfold wire_GetSum; simp only [this, decide_true, if_true]; rfl
  · right
    have e : xs = xs.take 32 ++ xs.drop 32 := (List.take_append_drop 32 xs).symm
    have hl : (xs.take 32).length = 32 := by rw [List.length_take]; omega
    refine ⟨xs.take 32, xs.drop 32, hl, isB_take hx 32, isB_drop hx 32, ?_, ?_⟩
    · unfold ref04_GetSum
      have c2 : ¬ ((strOfNums xs).size : Int) < 32 := by rw [strOfNums_size]; omega
      have g : (0 : Int) ≤ 32 ∧ (32 : Int) ≤ ((strOfNums xs).size : Int) ∧ ((strOfNums xs).size : Int) ≤ ((strOfNums xs).size : Int) := by rw [strOfNums_size]; omega
      have es : sx (strOfNums xs) 32 ((strOfNums xs).size : Int) = strOfNums (xs.drop 32) := by
        rw [sx_str, strOfNums_size]
        have h1 : (xs.length : Int).toNat = xs.length := by omega
        have h2 : (32 : Int).toNat = 32 := rfl
        rw [h1, List.take_length, h2]
      simp only [c2, decide_false, Bool.false_eq_true, if_false, rsum_l0 hx (by omega), Option.bind_some, g, and_self, if_true, es]
    · have := gsum hl (isB_take hx 32) (isB_drop hx 32)
      rw [← e] at this
      exact this
end Go.Cen

/- EVENT: the event that any bytes begin with. -/
set_option linter.unusedVariables false
set_option linter.unusedSimpArgs false
set_option maxRecDepth 100000
namespace Go.Cen
theorem rtext_same {xs : List Int} (hx : isB xs) (hn : xs.length ≤ 1000000) : ref04_GetText (strOfNums xs) 100 = wire_GetText (strOfNums xs) 100 := by
  rcases rtext_cases hx hn with ⟨a, b⟩ | ⟨s, r, _, _, a, b⟩ <;> rw [a, b]
theorem rsum_same {xs : List Int} (hx : isB xs) : ref04_GetSum (strOfNums xs) = wire_GetSum (strOfNums xs) := by
  rcases rsum_cases hx with ⟨a, b⟩ | ⟨s, r, _, _, _, a, b⟩ <;> rw [a, b]
theorem tl0 : tells5 0 = [true, true, false, false, false] := rfl
theorem tl4 : tells5 4 = [true, true, false, false, false] := rfl
theorem tl5 : tells5 5 = [true, true, false, false, false] := rfl
theorem tl1 : tells5 1 = [true, false, false, true, false] := rfl
theorem tl2 : tells5 2 = [true, false, true, true, true] := rfl
theorem tl3 : tells5 3 = [true, false, true, false, false] := rfl
theorem tl6 : tells5 6 = [true, false, false, false, false] := rfl
theorem tl7 : tells5 7 = [false, false, true, false, false] := rfl
theorem gtB0 (a b c d e : Bool) : gt [a, b, c, d, e] 0 = a := rfl
theorem gtB1 (a b c d e : Bool) : gt [a, b, c, d, e] 1 = b := rfl
theorem gtB2 (a b c d e : Bool) : gt [a, b, c, d, e] 2 = c := rfl
theorem gtB3 (a b c d e : Bool) : gt [a, b, c, d, e] 3 = d := rfl
theorem gtB4 (a b c d e : Bool) : gt [a, b, c, d, e] 4 = e := rfl
/-- what both come to, said once -/
def outR (e : ApiEvent) (r : List Int) : Option (ApiEvent × ByteArray × Bool) := if validE e = true then some (e, strOfNums r, true) else some (evZ, ⟨#[]⟩, false)
theorem fin_out (e : ApiEvent) (r : List Int) (h1 : e.Name.size ≤ 100) (h2 : e.Sum.length = 32) (h3 : isB e.Sum) : ((ref05_Valid e).bind fun y72 => ((if (!true) = true then some true else some (!y72)).bind fun x73 => (if x73 = true then some ((ApiEvent.mk 0 0 (⟨#[]⟩ : ByteArray) 0 0 (List.replicate 32 (0 : Int))), (⟨#[]⟩ : ByteArray), false) else some (e, strOfNums r, true)))) = outR e r := by
  rw [ref05_Valid_eq ⟨by omega, h2, h3⟩]
  unfold outR
  cases validE e <;> rfl
theorem rs {xs : List Int} (hx : isB xs) : ref04_GetSum (strOfNums xs) = some (z32, ⟨#[]⟩, false) ∨ ∃ (d r : List Int), d.length = 32 ∧ isB d ∧ isB r ∧ xs = d ++ r ∧ ref04_GetSum (strOfNums xs) = some (d, strOfNums r, true) := by
  rcases rsum_cases hx with ⟨a, b⟩ | ⟨s, r, _, _, _, a, b⟩
  · exact .inl a
  · rcases sum_cases hx with ⟨x, y, w⟩ | ⟨s', r', h1, h2, h3, h4, w⟩
    · rw [b] at w; simp at w
    · exact .inr ⟨s', r', h1, h2, h3, h4, by rw [rsum_same hx]; exact w⟩
theorem rput0 {a : Int} (a0 : 0 ≤ a ∧ a ≤ 1125899906842624) {s : ByteArray} (s1 : s.size ≤ 100) {r : List Int} (hr : isB r) (hl : r.length ≤ 1000) (hv : validE ⟨0, a, s, 0, 0, z32⟩ = true) : ref05_Get (strOfNums (putE ⟨0, a, s, 0, 0, z32⟩ ++ r)) = some (⟨0, a, s, 0, 0, z32⟩, strOfNums r, true) := by
  have hz := z32_ok
  have hp : putE ⟨0, a, s, 0, 0, z32⟩ ++ r = numL (clampN 0) ++ (numL (clampN a) ++ ((numL (clampN (s.size : Int)) ++ byts s) ++ r)) := by simp [putE, partsE, bytD]
  have h8 : ¬ (0 : Int) > 7 := by omega
  have h := rnum (a := 0) (by omega) (by omega) (isB_app (numL_isB (clampN a)) (isB_app (isB_app (numL_isB (clampN (s.size : Int))) (byts_isB s)) hr))
  have q0 := rnum a0.1 a0.2 (isB_app (isB_app (numL_isB (clampN (s.size : Int))) (byts_isB s)) hr)
  have q1 := (rtext_same (isB_app (isB_app (numL_isB (clampN (s.size : Int))) (byts_isB s)) hr) (by have := numL_len 7 (clampN (s.size : Int)) (by have := clampN_le (s.size : Int); omega); simp only [List.length_append, byts_len]; omega)).trans (gtext s1 hr)
  rw [hp]; unfold ref05_Get; rw [h]
  simp only [Option.bind_some, Bool.not_true, Bool.not_false, Bool.false_eq_true, if_false, if_true, h8, decide_false, tells_eq, tl0, gtB0, gtB1, gtB2, gtB3, gtB4, q0, q1]
  exact (fin_out ⟨0, a, s, 0, 0, z32⟩ r s1 hz.1 hz.2).trans (by unfold outR; rw [hv]; rfl)
theorem rput4 {a : Int} (a0 : 0 ≤ a ∧ a ≤ 1125899906842624) {s : ByteArray} (s1 : s.size ≤ 100) {r : List Int} (hr : isB r) (hl : r.length ≤ 1000) (hv : validE ⟨4, a, s, 0, 0, z32⟩ = true) : ref05_Get (strOfNums (putE ⟨4, a, s, 0, 0, z32⟩ ++ r)) = some (⟨4, a, s, 0, 0, z32⟩, strOfNums r, true) := by
  have hz := z32_ok
  have hp : putE ⟨4, a, s, 0, 0, z32⟩ ++ r = numL (clampN 4) ++ (numL (clampN a) ++ ((numL (clampN (s.size : Int)) ++ byts s) ++ r)) := by simp [putE, partsE, bytD]
  have h8 : ¬ (4 : Int) > 7 := by omega
  have h := rnum (a := 4) (by omega) (by omega) (isB_app (numL_isB (clampN a)) (isB_app (isB_app (numL_isB (clampN (s.size : Int))) (byts_isB s)) hr))
  have q0 := rnum a0.1 a0.2 (isB_app (isB_app (numL_isB (clampN (s.size : Int))) (byts_isB s)) hr)
  have q1 := (rtext_same (isB_app (isB_app (numL_isB (clampN (s.size : Int))) (byts_isB s)) hr) (by have := numL_len 7 (clampN (s.size : Int)) (by have := clampN_le (s.size : Int); omega); simp only [List.length_append, byts_len]; omega)).trans (gtext s1 hr)
  rw [hp]; unfold ref05_Get; rw [h]
  simp only [Option.bind_some, Bool.not_true, Bool.not_false, Bool.false_eq_true, if_false, if_true, h8, decide_false, tells_eq, tl4, gtB0, gtB1, gtB2, gtB3, gtB4, q0, q1]
  exact (fin_out ⟨4, a, s, 0, 0, z32⟩ r s1 hz.1 hz.2).trans (by unfold outR; rw [hv]; rfl)
theorem rput5 {a : Int} (a0 : 0 ≤ a ∧ a ≤ 1125899906842624) {s : ByteArray} (s1 : s.size ≤ 100) {r : List Int} (hr : isB r) (hl : r.length ≤ 1000) (hv : validE ⟨5, a, s, 0, 0, z32⟩ = true) : ref05_Get (strOfNums (putE ⟨5, a, s, 0, 0, z32⟩ ++ r)) = some (⟨5, a, s, 0, 0, z32⟩, strOfNums r, true) := by
  have hz := z32_ok
  have hp : putE ⟨5, a, s, 0, 0, z32⟩ ++ r = numL (clampN 5) ++ (numL (clampN a) ++ ((numL (clampN (s.size : Int)) ++ byts s) ++ r)) := by simp [putE, partsE, bytD]
  have h8 : ¬ (5 : Int) > 7 := by omega
  have h := rnum (a := 5) (by omega) (by omega) (isB_app (numL_isB (clampN a)) (isB_app (isB_app (numL_isB (clampN (s.size : Int))) (byts_isB s)) hr))
  have q0 := rnum a0.1 a0.2 (isB_app (isB_app (numL_isB (clampN (s.size : Int))) (byts_isB s)) hr)
  have q1 := (rtext_same (isB_app (isB_app (numL_isB (clampN (s.size : Int))) (byts_isB s)) hr) (by have := numL_len 7 (clampN (s.size : Int)) (by have := clampN_le (s.size : Int); omega); simp only [List.length_append, byts_len]; omega)).trans (gtext s1 hr)
  rw [hp]; unfold ref05_Get; rw [h]
  simp only [Option.bind_some, Bool.not_true, Bool.not_false, Bool.false_eq_true, if_false, if_true, h8, decide_false, tells_eq, tl5, gtB0, gtB1, gtB2, gtB3, gtB4, q0, q1]
  exact (fin_out ⟨5, a, s, 0, 0, z32⟩ r s1 hz.1 hz.2).trans (by unfold outR; rw [hv]; rfl)
theorem rput1 {a : Int} (a0 : 0 ≤ a ∧ a ≤ 1125899906842624) {b : Int} (b0 : 0 ≤ b ∧ b ≤ 1125899906842624) {r : List Int} (hr : isB r) (hl : r.length ≤ 1000) (hv : validE ⟨1, a, ⟨#[]⟩, 0, b, z32⟩ = true) : ref05_Get (strOfNums (putE ⟨1, a, ⟨#[]⟩, 0, b, z32⟩ ++ r)) = some (⟨1, a, ⟨#[]⟩, 0, b, z32⟩, strOfNums r, true) := by
  have hz := z32_ok
  have hp : putE ⟨1, a, ⟨#[]⟩, 0, b, z32⟩ ++ r = numL (clampN 1) ++ (numL (clampN a) ++ (numL (clampN b) ++ r)) := by simp [putE, partsE, bytD]
  have h8 : ¬ (1 : Int) > 7 := by omega
  have h := rnum (a := 1) (by omega) (by omega) (isB_app (numL_isB (clampN a)) (isB_app (numL_isB (clampN b)) hr))
  have q0 := rnum a0.1 a0.2 (isB_app (numL_isB (clampN b)) hr)
  have q1 := rnum b0.1 b0.2 hr
  rw [hp]; unfold ref05_Get; rw [h]
  simp only [Option.bind_some, Bool.not_true, Bool.not_false, Bool.false_eq_true, if_false, if_true, h8, decide_false, tells_eq, tl1, gtB0, gtB1, gtB2, gtB3, gtB4, q0, q1]
  exact (fin_out ⟨1, a, ⟨#[]⟩, 0, b, z32⟩ r (by show (0 : Nat) ≤ 100; omega) hz.1 hz.2).trans (by unfold outR; rw [hv]; rfl)
theorem rput2 {a : Int} (a0 : 0 ≤ a ∧ a ≤ 1125899906842624) {b : Int} (b0 : 0 ≤ b ∧ b ≤ 1125899906842624) {c : Int} (c0 : 0 ≤ c ∧ c ≤ 1125899906842624) {d : List Int} (d1 : d.length = 32) (d2 : isB d) {r : List Int} (hr : isB r) (hl : r.length ≤ 1000) (hv : validE ⟨2, a, ⟨#[]⟩, b, c, d⟩ = true) : ref05_Get (strOfNums (putE ⟨2, a, ⟨#[]⟩, b, c, d⟩ ++ r)) = some (⟨2, a, ⟨#[]⟩, b, c, d⟩, strOfNums r, true) := by
  have hz := z32_ok
  have hp : putE ⟨2, a, ⟨#[]⟩, b, c, d⟩ ++ r = numL (clampN 2) ++ (numL (clampN a) ++ (numL (clampN b) ++ (numL (clampN c) ++ (d ++ r)))) := by simp [putE, partsE, bytD]
  have h8 : ¬ (2 : Int) > 7 := by omega
  have h := rnum (a := 2) (by omega) (by omega) (isB_app (numL_isB (clampN a)) (isB_app (numL_isB (clampN b)) (isB_app (numL_isB (clampN c)) (isB_app (d2) hr))))
  have q0 := rnum a0.1 a0.2 (isB_app (numL_isB (clampN b)) (isB_app (numL_isB (clampN c)) (isB_app (d2) hr)))
  have q1 := rnum b0.1 b0.2 (isB_app (numL_isB (clampN c)) (isB_app (d2) hr))
  have q2 := rnum c0.1 c0.2 (isB_app (d2) hr)
  have q3 := (rsum_same (isB_app (d2) hr)).trans (gsum d1 d2 hr)
  rw [hp]; unfold ref05_Get; rw [h]
  simp only [Option.bind_some, Bool.not_true, Bool.not_false, Bool.false_eq_true, if_false, if_true, h8, decide_false, tells_eq, tl2, gtB0, gtB1, gtB2, gtB3, gtB4, q0, q1, q2, q3]
  exact (fin_out ⟨2, a, ⟨#[]⟩, b, c, d⟩ r (by show (0 : Nat) ≤ 100; omega) d1 d2).trans (by unfold outR; rw [hv]; rfl)
theorem rput3 {a : Int} (a0 : 0 ≤ a ∧ a ≤ 1125899906842624) {b : Int} (b0 : 0 ≤ b ∧ b ≤ 1125899906842624) {r : List Int} (hr : isB r) (hl : r.length ≤ 1000) (hv : validE ⟨3, a, ⟨#[]⟩, b, 0, z32⟩ = true) : ref05_Get (strOfNums (putE ⟨3, a, ⟨#[]⟩, b, 0, z32⟩ ++ r)) = some (⟨3, a, ⟨#[]⟩, b, 0, z32⟩, strOfNums r, true) := by
  have hz := z32_ok
  have hp : putE ⟨3, a, ⟨#[]⟩, b, 0, z32⟩ ++ r = numL (clampN 3) ++ (numL (clampN a) ++ (numL (clampN b) ++ r)) := by simp [putE, partsE, bytD]
  have h8 : ¬ (3 : Int) > 7 := by omega
  have h := rnum (a := 3) (by omega) (by omega) (isB_app (numL_isB (clampN a)) (isB_app (numL_isB (clampN b)) hr))
  have q0 := rnum a0.1 a0.2 (isB_app (numL_isB (clampN b)) hr)
  have q1 := rnum b0.1 b0.2 hr
  rw [hp]; unfold ref05_Get; rw [h]
  simp only [Option.bind_some, Bool.not_true, Bool.not_false, Bool.false_eq_true, if_false, if_true, h8, decide_false, tells_eq, tl3, gtB0, gtB1, gtB2, gtB3, gtB4, q0, q1]
  exact (fin_out ⟨3, a, ⟨#[]⟩, b, 0, z32⟩ r (by show (0 : Nat) ≤ 100; omega) hz.1 hz.2).trans (by unfold outR; rw [hv]; rfl)
theorem rput6 {a : Int} (a0 : 0 ≤ a ∧ a ≤ 1125899906842624) {r : List Int} (hr : isB r) (hl : r.length ≤ 1000) (hv : validE ⟨6, a, ⟨#[]⟩, 0, 0, z32⟩ = true) : ref05_Get (strOfNums (putE ⟨6, a, ⟨#[]⟩, 0, 0, z32⟩ ++ r)) = some (⟨6, a, ⟨#[]⟩, 0, 0, z32⟩, strOfNums r, true) := by
  have hz := z32_ok
  have hp : putE ⟨6, a, ⟨#[]⟩, 0, 0, z32⟩ ++ r = numL (clampN 6) ++ (numL (clampN a) ++ r) := by simp [putE, partsE, bytD]
  have h8 : ¬ (6 : Int) > 7 := by omega
  have h := rnum (a := 6) (by omega) (by omega) (isB_app (numL_isB (clampN a)) hr)
  have q0 := rnum a0.1 a0.2 hr
  rw [hp]; unfold ref05_Get; rw [h]
  simp only [Option.bind_some, Bool.not_true, Bool.not_false, Bool.false_eq_true, if_false, if_true, h8, decide_false, tells_eq, tl6, gtB0, gtB1, gtB2, gtB3, gtB4, q0]
  exact (fin_out ⟨6, a, ⟨#[]⟩, 0, 0, z32⟩ r (by show (0 : Nat) ≤ 100; omega) hz.1 hz.2).trans (by unfold outR; rw [hv]; rfl)
theorem rput7 {a : Int} (a0 : 0 ≤ a ∧ a ≤ 1125899906842624) {r : List Int} (hr : isB r) (hl : r.length ≤ 1000) (hv : validE ⟨7, 0, ⟨#[]⟩, a, 0, z32⟩ = true) : ref05_Get (strOfNums (putE ⟨7, 0, ⟨#[]⟩, a, 0, z32⟩ ++ r)) = some (⟨7, 0, ⟨#[]⟩, a, 0, z32⟩, strOfNums r, true) := by
  have hz := z32_ok
  have hp : putE ⟨7, 0, ⟨#[]⟩, a, 0, z32⟩ ++ r = numL (clampN 7) ++ (numL (clampN a) ++ r) := by simp [putE, partsE, bytD]
  have h8 : ¬ (7 : Int) > 7 := by omega
  have h := rnum (a := 7) (by omega) (by omega) (isB_app (numL_isB (clampN a)) hr)
  have q0 := rnum a0.1 a0.2 hr
  rw [hp]; unfold ref05_Get; rw [h]
  simp only [Option.bind_some, Bool.not_true, Bool.not_false, Bool.false_eq_true, if_false, if_true, h8, decide_false, tells_eq, tl7, gtB0, gtB1, gtB2, gtB3, gtB4, q0]
  exact (fin_out ⟨7, 0, ⟨#[]⟩, a, 0, z32⟩ r (by show (0 : Nat) ≤ 100; omega) hz.1 hz.2).trans (by unfold outR; rw [hv]; rfl)
theorem rGet_put {e : ApiEvent} (h : okE e) (hN : e.Name.size ≤ 100) (hv : validE e = true) {r : List Int} (hr : isB r) (hl : r.length ≤ 1000) : ref05_Get (strOfNums (putE e ++ r)) = some (e, strOfNums r, true) := by
  obtain ⟨f1, f2, f3⟩ := valid_form h hv
  obtain ⟨n1, n2, n3⟩ := valid_nums h hv
  obtain ⟨k, i, nm, t, l, s⟩ := e
  simp only at n1 n2 n3 hN
  have hs : s.length = 32 ∧ isB s := h.2
  rcases kinds k with q | q | q | q | q | q | q | q | ⟨k0, k4, k5, k1, k2, k3, k6, k7⟩
  case inr.inr.inr.inr.inr.inr.inr.inr => simp [validE, k0, k1, k2, k3, k4, k5, k6, k7] at hv
  all_goals subst q
  · have : (⟨0, i, nm, 0, 0, z32⟩ : ApiEvent) = ⟨0, i, nm, t, l, s⟩ := f2
    rw [← this] at hv ⊢; exact rput0 (by omega) hN hr hl hv
  · have : (⟨4, i, nm, 0, 0, z32⟩ : ApiEvent) = ⟨4, i, nm, t, l, s⟩ := f2
    rw [← this] at hv ⊢; exact rput4 (by omega) hN hr hl hv
  · have : (⟨5, i, nm, 0, 0, z32⟩ : ApiEvent) = ⟨5, i, nm, t, l, s⟩ := f2
    rw [← this] at hv ⊢; exact rput5 (by omega) hN hr hl hv
  · have : (⟨1, i, ⟨#[]⟩, 0, l, z32⟩ : ApiEvent) = ⟨1, i, nm, t, l, s⟩ := f2
    rw [← this] at hv ⊢; exact rput1 (by omega) (by omega) hr hl hv
  · have : (⟨2, i, ⟨#[]⟩, t, l, s⟩ : ApiEvent) = ⟨2, i, nm, t, l, s⟩ := f2
    rw [← this] at hv ⊢; exact rput2 (by omega) (by omega) (by omega) hs.1 hs.2 hr hl hv
  · have : (⟨3, i, ⟨#[]⟩, t, 0, z32⟩ : ApiEvent) = ⟨3, i, nm, t, l, s⟩ := f2
    rw [← this] at hv ⊢; exact rput3 (by omega) (by omega) hr hl hv
  · have : (⟨6, i, ⟨#[]⟩, 0, 0, z32⟩ : ApiEvent) = ⟨6, i, nm, t, l, s⟩ := f2
    rw [← this] at hv ⊢; exact rput6 (by omega) hr hl hv
  · have : (⟨7, 0, ⟨#[]⟩, t, 0, z32⟩ : ApiEvent) = ⟨7, i, nm, t, l, s⟩ := f2
    rw [← this] at hv ⊢; exact rput7 (by omega) hr hl hv
end Go.Cen

/- BUNDLE: a name as it is shown. -/
set_option linter.unusedVariables false
set_option linter.unusedSimpArgs false
set_option maxRecDepth 100000
namespace Go.Cen
theorem odd_off {r : Nat} (h : oddN (r : Int) = false) : 32 ≤ r ∧ r ≠ 127 ∧ r ≠ 65533 := by
  simp only [oddN, Bool.or_eq_false_iff, decide_eq_false_iff_not, Bool.and_eq_false_iff, beq_eq_false_iff_ne] at h
  omega
theorem quote_ok {l : List Int} (hB : isB l) (hn : l.length ≤ 1000000) (hs : segsOk l = true) : name_Quote (strOfNums l) = some (strOfNums (quoteL l)) := by
  have hL := LIM_val
  unfold name_Quote
  rw [writeByte_eq _ _ _ (by simp; omega)]
  simp only [Option.bind_some, List.nil_append]
  have hbl := body_len l hB
  have := loopR l hB (by omega) (fun k i (s : List Int) => name_Quote.l0 (strOfNums l) k i true s) (fun r s => some (true, s ++ body r)) (fun r s => s.length + 4 * r.length ≤ 4000100 ∧ segsOk r = true)
    (fun k s hs => by
      simp only [name_Quote.l0, strOfNums_size, Nat.lt_irrefl, if_false, body_nil, List.append_nil])
    (fun k i s hi hne hB' hr hw _ hbt hI ih => by
      have hlt := drop_lt hne
      have b0 := bn_lt hB' 0
      obtain ⟨x, hx⟩ : ∃ x, x = l.drop i := ⟨_, rfl⟩
      rw [← hx] at hne hB' hr hw hbt hI ih hlt b0 ⊢
      have hbody := body_cons hne
      obtain ⟨hI1, hI2⟩ := hI
      obtain ⟨hnb, ho, hI3⟩ := segsOk_good hne hI2
      obtain ⟨o1, o2, o3⟩ := odd_off ho
      have hbr : name_broken (strOfNums l) (i : Int) ((dec x).1 : Int) = some false := by
        have : ((((dec x).1 : Nat) : Int) != 65533) = true := by simp; omega
        simp only [name_broken, this, if_true]
      simp only [name_Quote.l0, strOfNums_size, hi, if_true, hr, hw, hbt, orS, Option.bind_some, hbr]
      unfold shown at hbody
      by_cases c1 : (dec x).1 = 34 ∨ (dec x).1 = 92
      · have d1 : ((((dec x).1 : Int) == 34) || (((dec x).1 : Int) == 92)) = true := by simp; omega
        rw [if_pos c1] at hbody
        have hv : (dec x).1 < 128 := by omega
        have e1 : encI (dec x).1 = [((dec x).1 : Int)] := by unfold encI; rw [if_pos hv]
        simp only [d1, if_true]
        rw [writeByte_eq _ _ _ (by omega)]
        simp only [Option.bind_some]
        rw [writeRune_eq _ _ _ (by omega) (by omega) (by simp; omega), e1]
        simp only [Option.bind_some]
        rw [ih _ ⟨by simp only [List.length_append, List.length_cons, List.length_nil]; omega, hI3⟩, hbody]
        simp
      · have d1 : ((((dec x).1 : Int) == 34) || (((dec x).1 : Int) == 92)) = false := by simp; omega
        have d2 : (((dec x).1 : Int) == 10) = false := by simp; omega
        have d3 : (decide (((dec x).1 : Int) < 32) || ((((dec x).1 : Int) == 127) || false)) = false := by
          have h1 : ¬ ((dec x).1 : Int) < 32 := by omega
          have h2 : ¬ ((dec x).1 : Int) = 127 := by omega
          simp [h1, h2]
        rw [if_neg c1, if_neg (by omega), if_neg (by intro h; rcases h with h | h | h; omega; omega; exact hnb h)] at hbody
        have hrange : (dec x).1 ≤ 1114111 ∧ ((dec x).1 < 55296 ∨ 57344 ≤ (dec x).1) := by
          rcases dec_cases x hne hB' with ⟨a, e⟩ | ⟨_, e⟩ | ⟨_, _, _, a, b⟩
          · rw [e]; simp only; omega
          · exact absurd e hnb
          · exact ⟨a, b⟩
        have hw4 := dec_w x hne
        simp only [d1, d2, d3, Bool.false_eq_true, if_false]
        rw [writeRune_eq _ _ _ hrange.1 hrange.2 (by omega), enc_dec hB' hne hnb]
        simp only [Option.bind_some]
        rw [ih _ ⟨by simp only [List.length_append, List.length_take]; omega, hI3⟩, hbody]
        simp) [34] ⟨by simp; omega, hs⟩
  rw [show name_Quote.l0 (strOfNums l) FU 0 true [34] = _ from this]
  simp only [Option.bind_some]
  rw [writeByte_eq _ _ _ (by simp; omega)]
  simp only [Option.bind_some, strings_Builder_String]
  rw [if_pos (show bytesOk ([34] ++ body l ++ [34]) = true from (bytesOk_iff _).2 (quoteL_isB hB))]
  rfl
end Go.Cen
