/- EVENT: what was put is got again. -/
import Derived.Test.YthdoklobbcedcadVEvD
import Derived.Test.YthdoklobbcedcadVRootG
set_option linter.unusedVariables false
set_option linter.unusedSimpArgs false
set_option maxRecDepth 100000
namespace Go.Cen
def tmplD : Dyn46 → Dyn46
  | .nil => .nil
  | .i68 _ => .i68 0
  | .i53 _ => .i53 ⟨#[]⟩
  | .i71 _ => .i71 z32
def goodD (d : Dyn46) : Prop := match d with | .nil => False | .i68 x => 0 ≤ x ∧ x ≤ 1125899906842624 | .i53 s => s.size ≤ 100 | .i71 d => d.length = 32 ∧ isB d
theorem getR_num {a : Int} (h0 : 0 ≤ a) (h : a ≤ 1125899906842624) (r : List Int) : getR (numL (clampN a) ++ r) = (a, r, true) := by
  unfold getR
  rw [getN_numL _ _ (clampN_le a)]
  simp [clampN_id h0 h]
theorem gnum {a : Int} (h0 : 0 ≤ a) (h : a ≤ 1125899906842624) {r : List Int} (hr : isB r) : wire_GetNum (strOfNums (numL (clampN a) ++ r)) = some (a, strOfNums r, true) := by
  rw [wire_GetNum_eq _ (isB_app (numL_isB _) hr), getR_num h0 h]
theorem gtext {s : ByteArray} (h : s.size ≤ 100) {r : List Int} (hr : isB r) : wire_GetText (strOfNums ((numL (clampN (s.size : Int)) ++ byts s) ++ r)) 100 = some (s, strOfNums r, true) := by
  unfold wire_GetText wire_text
  rw [List.append_assoc, gnum (by omega) (by omega) (isB_app (byts_isB s) hr)]
  simp only [Option.bind_some, Bool.not_true, Bool.false_eq_true, if_false, strOfNums_size, List.length_append, byts_len]
  have c : ¬ ((s.size : Int) > (if (100 : Int) < ((s.size + r.length : Nat) : Int) then 100 else ((s.size + r.length : Nat) : Int))) := by split <;> omega
  have g1 : (0 : Int) ≤ 0 ∧ (0 : Int) ≤ (s.size : Int) ∧ (s.size : Int) ≤ ((s.size + r.length : Nat) : Int) := by omega
  have g2 : (0 : Int) ≤ (s.size : Int) ∧ (s.size : Int) ≤ ((s.size + r.length : Nat) : Int) ∧ ((s.size + r.length : Nat) : Int) ≤ ((s.size + r.length : Nat) : Int) := by omega
  have e1 : sx (strOfNums (byts s ++ r)) 0 (s.size : Int) = s := by
    rw [sx_str]
    have : (s.size : Int).toNat = (byts s).length := by rw [byts_len]; omega
    rw [this, List.take_left]; simp [strOfNums_byts]
  have e2 : sx (strOfNums (byts s ++ r)) (s.size : Int) ((s.size + r.length : Nat) : Int) = strOfNums r := by
    rw [sx_str]
    have h1 : ((s.size + r.length : Nat) : Int).toNat = (byts s ++ r).length := by rw [List.length_append, byts_len]; omega
    have h2 : (s.size : Int).toNat = (byts s).length := by rw [byts_len]; omega
    rw [h1, List.take_length, h2, List.drop_left]
  simp only [c, decide_false, Bool.false_eq_true, if_false, Option.bind_some, g1, g2, and_self, if_true, e1, e2]
  rfl
theorem gsum {d : List Int} (h : d.length = 32) (hd : isB d) {r : List Int} (hr : isB r) : wire_GetSum (strOfNums (d ++ r)) = some (d, strOfNums r, true) := by
  unfold wire_GetSum
  have hsz : ((strOfNums (d ++ r)).size : Int) = ((32 + r.length : Nat) : Int) := by rw [strOfNums_size, List.length_append, h]
  have c : ¬ (((32 + r.length : Nat) : Int) < 32) := by omega
  have g1 : (0 : Int) ≤ 0 ∧ (0 : Int) ≤ 32 ∧ (32 : Int) ≤ ((32 + r.length : Nat) : Int) := by omega
  have g2 : (0 : Int) ≤ 32 ∧ (32 : Int) ≤ ((32 + r.length : Nat) : Int) ∧ ((32 + r.length : Nat) : Int) ≤ ((32 + r.length : Nat) : Int) := by omega
  have e1 : sx (strOfNums (d ++ r)) 0 32 = strOfNums d := by
    rw [sx_str]
    have : (32 : Int).toNat = d.length := by rw [h]; rfl
    rw [this, List.take_left]; simp
  have e2 : sx (strOfNums (d ++ r)) 32 ((32 + r.length : Nat) : Int) = strOfNums r := by
    rw [sx_str]
    have h1 : ((32 + r.length : Nat) : Int).toNat = (d ++ r).length := by rw [List.length_append, h]; omega
    have h2 : (32 : Int).toNat = d.length := by rw [h]; rfl
    rw [h1, List.take_length, h2, List.drop_left]
  have hlim : (strOfNums d).size ≤ LIM := by rw [strOfNums_size, h]; decide
  rw [hsz]
  simp only [c, decide_false, Bool.false_eq_true, if_false, g1, g2, and_self, if_true, e1, e2, hlim, byts_strOfNums hd, h]
  rfl
theorem get_eq {d : Dyn46} (h : goodD d) {r : List Int} (hr : isB r) : event_get (tmplD d) (strOfNums (bytD d ++ r)) = some (d, strOfNums r, true) := by
  cases d with
  | nil => exact h.elim
  | i68 x => simp only [event_get, tmplD, bytD, Option.bind_some, gnum h.1 h.2 hr]
  | i53 s =>
    have h' : s.size ≤ 100 := h
    simp only [event_get, tmplD, bytD, Option.bind_some, gtext h' hr]
  | i71 d =>
    have hz : z32.length = 32 := by simp [z32]
    simp only [event_get, tmplD, bytD, hz, if_true, Option.bind_some, gsum h.1 h.2 hr]
theorem set_mid {α : Type} (a : List α) (x y : α) (b : List α) : st (a ++ x :: b) (a.length : Int) y = (a ++ [y]) ++ b := by
  unfold st
  have : (a.length : Int).toNat = a.length := by omega
  rw [this, List.set_append_right _ _ (Nat.le_refl _)]
  simp
theorem gt_mid {α : Type} [Inhabited α] (a : List α) (x : α) (b : List α) : gt (a ++ x :: b) (a.length : Int) = x := by
  rw [gt_nat _ a.length (by simp)]
  simp
theorem Get_l0 (T : List Dyn46) (r : List Int) (hr : isB r) : ∀ (todo done : List Dyn46) (k : Nat), (∀ d ∈ todo, goodD d) → done.length + todo.length = T.length → T.length ≤ 1000 → todo.length < k →
    event_Get.l0 T k (strOfNums (todo.flatMap bytD ++ r)) (done ++ todo.map tmplD) (done.length : Int) = some (.inr (strOfNums r, done ++ todo))
  | [], done, k, _, h2, h3, h4 => by
    obtain ⟨k, rfl⟩ : ∃ m, k = m + 1 := ⟨k - 1, by omega⟩
    have hd : decide ((done.length : Int) < (T.length : Int)) = false := by simp at h2 ⊢; omega
    simp only [event_Get.l0, hd, Bool.false_eq_true, if_false]
    simp
  | d :: t, done, k, h1, h2, h3, h4 => by
    obtain ⟨k, rfl⟩ : ∃ m, k = m + 1 := ⟨k - 1, by omega⟩
    have hg : goodD d := h1 d (by simp)
    have ht : ∀ x ∈ t, goodD x := fun x hx => h1 x (by simp [hx])
    have hok : ∀ x ∈ t, okD x := fun x hx => by
      have := ht x hx
      cases x with
      | nil => exact this
      | i68 a => trivial
      | i53 s => have q : s.size ≤ 100 := this; show s.size ≤ 100000; omega
      | i71 d => exact this
    have hB : isB (t.flatMap bytD ++ r) := isB_app (isB_flat fun x hx => bytD_isB (hok x hx)) hr
    simp only [List.length_cons] at h2 h4
    have hd : decide ((done.length : Int) < (T.length : Int)) = true := by simp; omega
    have hl : (0 : Int) ≤ (done.length : Int) ∧ (done.length : Int) < ((done ++ tmplD d :: t.map tmplD).length : Int) := by
      simp only [List.length_append, List.length_cons, List.length_map]; omega
    have hw : wi64 ((done.length : Int) + 1) = (((done ++ [d]).length : Nat) : Int) := by rw [wi64_id (by omega)]; simp
    have ih := Get_l0 T r hr t (done ++ [d]) k ht (by simp only [List.length_append, List.length_cons, List.length_nil]; omega) h3 (by omega)
    simp only [event_Get.l0, hd, if_true, List.map_cons, hl, and_self, gt_mid, List.flatMap_cons, List.append_assoc, get_eq hg hB, Option.bind_some, Bool.not_true, Bool.false_eq_true, if_false]
    rw [set_mid, hw, ih]
    simp
theorem parts_tmpl (e : ApiEvent) : partsE ⟨e.Kind, 0, ⟨#[]⟩, 0, 0, z32⟩ = (partsE e).map tmplD := by
  rcases kinds e.Kind with k | k | k | k | k | k | k | k | ⟨k0, k4, k5, k1, k2, k3, k6, k7⟩
  all_goals first
    | (simp [partsE, k, tmplD]; done)
    | (simp [partsE, k0, k1, k2, k3, k4, k5, k6, k7])
theorem parts_good {e : ApiEvent} (h : okE e) (hN : e.Name.size ≤ 100) (hv : validE e = true) : ∀ d ∈ partsE e, goodD d := by
  obtain ⟨n1, n2, n3⟩ := valid_nums h hv
  have a1 : 0 ≤ e.ID ∧ e.ID ≤ 1125899906842624 := by omega
  have a2 : 0 ≤ e.Time ∧ e.Time ≤ 1125899906842624 := by omega
  have a3 : 0 ≤ e.Len ∧ e.Len ≤ 1125899906842624 := by omega
  intro d hd
  unfold partsE at hd
  repeat' split at hd
  all_goals simp at hd
  · rcases hd with rfl | rfl
    · exact a1
    · exact hN
  · rcases hd with rfl | rfl
    · exact a1
    · exact a3
  · rcases hd with rfl | rfl | rfl | rfl
    · exact a1
    · exact a2
    · exact a3
    · exact h.2
  · rcases hd with rfl | rfl
    · exact a1
    · exact a2
  · subst hd; exact a1
  · subst hd; exact a2
theorem Get_put {e : ApiEvent} (h : okE e) (hN : e.Name.size ≤ 100) (hv : validE e = true) {r : List Int} (hr : isB r) : event_Get (strOfNums (putE e ++ r)) = some (e, strOfNums r, true) := by
  have hk := valid_kind hv
  have hp := parts_ok h
  obtain ⟨f1, f2, f3⟩ := valid_form h hv
  have hB : isB ((partsE e).flatMap bytD ++ r) := isB_app (isB_flat fun x hx => bytD_isB (hp x hx)) hr
  have hlen := parts_len e
  have hF : FU = 4611686018427387904 := rfl
  unfold event_Get putE
  rw [List.append_assoc, gnum (by omega) (by omega) hB]
  have hk8 : ¬ e.Kind ≥ 8 := by omega
  have hpe : event_parts (ApiEvent.mk e.Kind 0 (⟨#[]⟩ : ByteArray) 0 0 (List.replicate 32 (0 : Int))) = some ((partsE e).map tmplD) := by
    rw [parts_eq]; exact congrArg some (parts_tmpl e)
  have hl := Get_l0 ((partsE e).map tmplD) r hr (partsE e) [] FU (parts_good h hN hv) (by simp) (by simp; omega) (by omega)
  simp only [List.nil_append, List.length_nil] at hl
  have hl' : event_Get.l0 ((partsE e).map tmplD) FU (strOfNums ((partsE e).flatMap bytD ++ r)) ((partsE e).map tmplD) 0 = some (.inr (strOfNums r, partsE e)) := hl
  have ho := of_eq h f1
  rw [f2] at ho
  simp only [Option.bind_some, Bool.not_true, Bool.false_eq_true, if_false, event_words, hk8, decide_false, hpe, hl', ho, event_Valid_eq h, hv]
end Go.Cen
