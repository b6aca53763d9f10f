/- ROOT: numbers read out of bytes, the program's way. -/
import Derived.Test.YthdoklobbcedcacCShaE
set_option linter.unusedVariables false
set_option linter.unusedSimpArgs false
namespace Go.Cen
/-- a result that fits what is to be read -/
def fitsG (xs : List Int) (ρ : Option (WireGot_int ⊕ Unit)) : Prop := match getN xs with
  | some (n, r) => ρ = some (.inl ⟨(n : Int), strOfNums r, true⟩)
  | none => ρ = some (.inr ()) ∨ ∃ g : WireGot_int, ρ = some (.inl g) ∧ g.ok = false
theorem wire_l0 (xs : List Int) (hx : isB xs) : ∀ (f i k a : Nat), i + f = 8 → f < k → i ≤ xs.length → a < 128 ^ i →
    (∀ n r, rawN f (xs.drop i) = some (n, r) → rawN 8 xs = some (a + 128 ^ i * n, r)) → (rawN f (xs.drop i) = none → rawN 8 xs = none) →
    (∀ n r, decN f (xs.drop i) = some (n, r) → (i = 0 ∨ n ≠ 0) → decN 8 xs = some (a + 128 ^ i * n, r)) → (∀ n r, rawN f (xs.drop i) = some (n, r) → (decN f (xs.drop i) = none ∨ (n = 0 ∧ 0 < i)) → decN 8 xs = none) →
    fitsG xs (wire_num.l0 (strOfNums xs) k (a : Int) (i : Int)) := by
  intro f
  induction f with
  | zero =>
    intro i k a hi hk hl ha h1 h2 h3 h4
    obtain ⟨k, rfl⟩ : ∃ m, k = m + 1 := ⟨k - 1, by omega⟩
    have hr := h2 rfl
    unfold fitsG
    rw [getN_noraw hr]
    have : decide ((i : Int) < (if 8 < (xs.length : Int) then 8 else (xs.length : Int))) = false := by simp; split <;> omega
    simp only [wire_num.l0, this, strOfNums_size]
    exact .inl rfl
  | succ f ih =>
    intro i k a hi hk hl ha h1 h2 h3 h4
    obtain ⟨k, rfl⟩ : ∃ m, k = m + 1 := ⟨k - 1, by omega⟩
    by_cases hlt : i < xs.length
    · have hd : decide ((i : Int) < (if 8 < (xs.length : Int) then 8 else (xs.length : Int))) = true := by simp; split <;> omega
      have hdr : xs.drop i = xs[i] :: xs.drop (i + 1) := List.drop_eq_getElem_cons hlt
      have hg : bt (strOfNums xs) (i : Int) = xs[i] := by rw [bt_str hx, gt_nat xs i hlt]
      have hb := hx xs[i] (List.getElem_mem hlt)
      obtain ⟨b, hbb⟩ : ∃ b : Nat, xs[i] = (b : Int) := ⟨xs[i].toNat, by omega⟩
      have hp : 128 ^ i ≤ 562949953421312 := by
        have : (128 : Nat) ^ i ≤ 128 ^ 7 := Nat.pow_le_pow_right (by decide) (by omega)
        omega
      have hw : wi64 ((i : Int) + 1) = ((i + 1 : Nat) : Int) := by rw [wi64_id (by omega)]; omega
      have hw7 : wi64 (7 * (i : Int)) = ((7 * i : Nat) : Int) := by rw [wi64_id (by omega)]; omega
      have hm2 : b % 128 * 128 ^ i ≤ 127 * 562949953421312 := Nat.mul_le_mul (by omega) hp
      have hpe : (2 : Nat) ^ (7 * i) = 128 ^ i := by rw [Nat.pow_mul]
      have hm : bShl .i64 (wi64 (bAnd .u8 (b : Int) 127)) ((7 * i : Nat) : Int) = ((b % 128 * 128 ^ i : Nat) : Int) := by
        rw [bAnd127 b (by omega), wi64_id (by omega), bShl_i64 _ _ (by omega) (by rw [hpe]; omega), hpe]
      have hs : bOr .i64 (a : Int) ((b % 128 * 128 ^ i : Nat) : Int) = ((a + b % 128 * 128 ^ i : Nat) : Int) := by
        rw [bOr_i64 _ _ (by omega) (by omega)]
        rw [← hpe, Nat.or_comm, or_add (by rw [hpe]; exact ha)]
        rw [hpe]; omega
      have hgi : (0 ≤ (i : Int) ∧ (i : Int) < (xs.length : Int)) := ⟨by omega, by omega⟩
      have h70 : 0 ≤ ((7 * i : Nat) : Int) := by omega
      simp only [decide_true, if_true, and_self, Option.bind_some, wire_num.l0, strOfNums_size, hd, hgi, hg, hbb, hw7, hm, hs, hw, h70]
      by_cases hb1 : b < 128
      · have hb2 : decide ((b : Int) < 128) = true := by simp; omega
        have hraw : rawN (f + 1) (xs.drop i) = some (b, xs.drop (i + 1)) := by rw [hdr, hbb]; simp only [rawN]; rw [if_pos (by omega)]; simp
        have hdec : decN (f + 1) (xs.drop i) = some (b, xs.drop (i + 1)) := by rw [hdr, hbb]; simp only [decN]; rw [if_pos (by omega)]; simp
        obtain ⟨n, hn⟩ : ∃ n, n = a + b % 128 * 128 ^ i := ⟨_, rfl⟩
        have hn2 : n = a + 128 ^ i * b := by rw [hn, Nat.mod_eq_of_lt hb1, Nat.mul_comm]
        have hr := h1 _ _ hraw
        rw [← hn2] at hr
        have hsy : sx (strOfNums xs) ((i + 1 : Nat) : Int) (xs.length : Int) = strOfNums (xs.drop (i + 1)) := by rw [sx_str]; simp
        have hgs : (0 : Int) ≤ ((i + 1 : Nat) : Int) ∧ ((i + 1 : Nat) : Int) ≤ (xs.length : Int) := ⟨by omega, by omega⟩
        simp only [hb2, if_true, ← hn, hsy, hgs, and_self, Int.le_refl]
        unfold fitsG
        by_cases hc : n ≤ 1125899906842624
        · have hc1 : decide ((n : Int) ≤ 1125899906842624) = true := by simp; omega
          simp only [hc1, if_true]
          by_cases hi0 : i = 0
          · have hd8 := h3 _ _ hdec (.inl hi0)
            rw [← hn2] at hd8
            have : getN xs = some (n, xs.drop (i + 1)) := by unfold getN; rw [hd8]; simp only; rw [if_pos hc]
            rw [this]
            subst hi0
            rfl
          · have hz : ((i : Int) == 0) = false := by simp; omega
            simp only [hz, Bool.false_eq_true, if_false]
            by_cases hb0 : b = 0
            · have hd8 := h4 _ _ hraw (.inr ⟨hb0, by omega⟩)
              have : getN xs = none := by unfold getN; rw [hd8]
              rw [this]
              exact .inr ⟨_, rfl, by simp [hb0]⟩
            · have hd8 := h3 _ _ hdec (.inr hb0)
              rw [← hn2] at hd8
              have : getN xs = some (n, xs.drop (i + 1)) := by unfold getN; rw [hd8]; simp only; rw [if_pos hc]
              rw [this]
              have : decide ((b : Int) > 0) = true := by simp; omega
              simp only [this]
              rfl
        · have hc1 : decide ((n : Int) ≤ 1125899906842624) = false := by simp; omega
          have : getN xs = none := getN_none hx hr (fun h => hc h.1)
          rw [this]
          simp only [hc1]
          exact .inr ⟨_, rfl, rfl⟩
      · have hb2 : decide ((b : Int) < 128) = false := by simp; omega
        have hpw : 128 ^ (i + 1) = 128 ^ i * 128 := Nat.pow_succ ..
        have hbm : b % 128 = b - 128 := by omega
        have hlt2 : a + b % 128 * 128 ^ i < 128 ^ (i + 1) := by
          have : b % 128 * 128 ^ i ≤ 127 * 128 ^ i := Nat.mul_le_mul_right _ (by omega)
          omega
        have hval : ∀ n, a + 128 ^ i * (b - 128 + 128 * n) = a + b % 128 * 128 ^ i + 128 ^ (i + 1) * n := by
          intro n
          rw [hbm, hpw, Nat.mul_add, Nat.mul_comm (128 ^ i) (b - 128), Nat.mul_assoc]; omega
        have hraws : ∀ n r, rawN f (xs.drop (i + 1)) = some (n, r) → rawN (f + 1) (xs.drop i) = some (b - 128 + 128 * n, r) := by
          intro n r h
          rw [hdr, hbb]; simp only [rawN]; rw [if_neg (by omega), h]; simp
        simp only [hb2, Bool.false_eq_true, if_false]
        refine ih (i + 1) k (a + b % 128 * 128 ^ i) (by omega) (by omega) (by omega) hlt2 ?_ ?_ ?_ ?_
        · intro n r h
          rw [h1 _ _ (hraws n r h), hval]
        · intro h
          exact h2 (by rw [hdr, hbb]; simp only [rawN]; rw [if_neg (by omega), h])
        · intro n r h hn
          have hn0 : n ≠ 0 := by rcases hn with h | h <;> omega
          rw [h3 (b - 128 + 128 * n) r (by rw [hdr, hbb]; simp only [decN]; rw [if_neg (by omega), h]; simp [hn0]) (.inr (by omega)), hval]
        · intro n r h hn
          refine h4 _ _ (hraws n r h) (.inl ?_)
          rw [hdr, hbb]; simp only [decN]; rw [if_neg (by omega)]
          cases hdc : decN f (xs.drop (i + 1)) with
          | none => rfl
          | some q =>
            rcases hn with h5 | h5
            · rw [hdc] at h5; cases h5
            · have := decN_raw _ _ q.1 q.2 hdc
              rw [h] at this
              simp only [Option.some.injEq, Prod.mk.injEq] at this
              have hq : q.1 = 0 := by omega
              simp [hq]
    · have hd : decide ((i : Int) < (if 8 < (xs.length : Int) then 8 else (xs.length : Int))) = false := by simp; split <;> omega
      have hz : xs.drop i = [] := List.drop_eq_nil_iff.2 (by omega)
      have hr := h2 (by rw [hz]; rfl)
      unfold fitsG
      rw [getN_noraw hr]
      simp only [wire_num.l0, strOfNums_size, hd]
      exact .inl rfl
theorem wire_GetNum_eq (xs : List Int) (hx : isB xs) : wire_GetNum (strOfNums xs) = some ((getR xs).1, strOfNums (getR xs).2.1, (getR xs).2.2) := by
  unfold wire_GetNum wire_num getR
  have := wire_l0 xs hx 8 0 FU 0 rfl (by have : FU = 4611686018427387904 := rfl
                                         omega) (by omega) (by decide) (fun n r h => by simpa using h) (fun h => by simpa using h) (fun n r h _ => by simpa using h) (fun n r h hh => by
    rcases hh with h5 | h5
    · simpa using h5
    · omega)
  unfold fitsG at this
  cases h : getN xs with
  | some p =>
    rw [h] at this
    simp only at this
    rw [show wire_num.l0 (strOfNums xs) FU 0 0 = _ from this]
    rfl
  | none =>
    rw [h] at this
    simp only at this
    rcases this with h2 | ⟨g, h2, h3⟩
    · rw [show wire_num.l0 (strOfNums xs) FU 0 0 = _ from h2]
      rfl
    · rw [show wire_num.l0 (strOfNums xs) FU 0 0 = _ from h2]
      simp only [Option.bind_some, wire_got_int_parts, h3]
      rfl
end Go.Cen

/- EVENT: what was put is got again. -/
set_option linter.unusedVariables false
set_option linter.unusedSimpArgs false
set_option maxRecDepth 100000
namespace Go.Cen
def tmplD : Dyn66 → Dyn66
  | .nil => .nil
  | .i89 _ => .i89 0
  | .i90 _ => .i90 ⟨#[]⟩
  | .i91 _ => .i91 z32
def goodD (d : Dyn66) : Prop := match d with | .nil => False | .i89 x => 0 ≤ x ∧ x ≤ 1125899906842624 | .i90 s => s.size ≤ 100 | .i91 d => d.length = 32 ∧ isB d
theorem getR_num {a : Int} (h0 : 0 ≤ a) (h : a ≤ 1125899906842624) (r : List Int) : getR (numL (clampN a) ++ r) = (a, r, true) := by
  unfold getR
  rw [getN_numL _ _ (clampN_le a)]
  simp [clampN_id h0 h]
theorem gnum {a : Int} (h0 : 0 ≤ a) (h : a ≤ 1125899906842624) {r : List Int} (hr : isB r) : wire_GetNum (strOfNums (numL (clampN a) ++ r)) = some (a, strOfNums r, true) := by
  rw [wire_GetNum_eq _ (isB_app (numL_isB _) hr), getR_num h0 h]
theorem gtext {s : ByteArray} (h : s.size ≤ 100) {r : List Int} (hr : isB r) : wire_GetText (strOfNums ((numL (clampN (s.size : Int)) ++ byts s) ++ r)) 100 = some (s, strOfNums r, true) := by
  unfold wire_GetText wire_text
  rw [List.append_assoc, gnum (by omega) (by omega) (isB_app (byts_isB s) hr)]
  simp only [Option.bind_some, Bool.not_true, Bool.false_eq_true, if_false, strOfNums_size, List.length_append, byts_len]
  have c : ¬ ((s.size : Int) > (if (100 : Int) < ((s.size + r.length : Nat) : Int) then 100 else ((s.size + r.length : Nat) : Int))) := by split <;> omega
  have g1 : (0 : Int) ≤ 0 ∧ (0 : Int) ≤ (s.size : Int) ∧ (s.size : Int) ≤ ((s.size + r.length : Nat) : Int) := by omega
  have g2 : (0 : Int) ≤ (s.size : Int) ∧ (s.size : Int) ≤ ((s.size + r.length : Nat) : Int) ∧ ((s.size + r.length : Nat) : Int) ≤ ((s.size + r.length : Nat) : Int) := by omega
  have e1 : sx (strOfNums (byts s ++ r)) 0 (s.size : Int) = s := by
    rw [sx_str]
    have : (s.size : Int).toNat = (byts s).length := by rw [byts_len]; omega
    rw [this, List.take_left]; simp [strOfNums_byts]
  have e2 : sx (strOfNums (byts s ++ r)) (s.size : Int) ((s.size + r.length : Nat) : Int) = strOfNums r := by
    rw [sx_str]
    have h1 : ((s.size + r.length : Nat) : Int).toNat = (byts s ++ r).length := by rw [List.length_append, byts_len]; omega
    have h2 : (s.size : Int).toNat = (byts s).length := by rw [byts_len]; omega
    rw [h1, List.take_length, h2, List.drop_left]
  simp only [c, decide_false, Bool.false_eq_true, if_false, Option.bind_some, g1, g2, and_self, if_true, e1, e2]
  rfl
theorem gsum {d : List Int} (h : d.length = 32) (hd : isB d) {r : List Int} (hr : isB r) : wire_GetSum (strOfNums (d ++ r)) = some (d, strOfNums r, true) := by
  unfold wire_GetSum
  have hsz : ((strOfNums (d ++ r)).size : Int) = ((32 + r.length : Nat) : Int) := by rw [strOfNums_size, List.length_append, h]
  have c : ¬ (((32 + r.length : Nat) : Int) < 32) := by omega
  have g1 : (0 : Int) ≤ 0 ∧ (0 : Int) ≤ 32 ∧ (32 : Int) ≤ ((32 + r.length : Nat) : Int) := by omega
  have g2 : (0 : Int) ≤ 32 ∧ (32 : Int) ≤ ((32 + r.length : Nat) : Int) ∧ ((32 + r.length : Nat) : Int) ≤ ((32 + r.length : Nat) : Int) := by omega
  have e1 : sx (strOfNums (d ++ r)) 0 32 = strOfNums d := by
    rw [sx_str]
    have : (32 : Int).toNat = d.length := by rw [h]; rfl
    rw [this, List.take_left]; simp
  have e2 : sx (strOfNums (d ++ r)) 32 ((32 + r.length : Nat) : Int) = strOfNums r := by
    rw [sx_str]
    have h1 : ((32 + r.length : Nat) : Int).toNat = (d ++ r).length := by rw [List.length_append, h]; omega
    have h2 : (32 : Int).toNat = d.length := by rw [h]; rfl
    rw [h1, List.take_length, h2, List.drop_left]
  have hlim : (strOfNums d).size ≤ LIM := by rw [strOfNums_size, h]; decide
  rw [hsz]
  simp only [c, decide_false, Bool.false_eq_true, if_false, g1, g2, and_self, if_true, e1, e2, hlim, byts_strOfNums hd, h]
  rfl
theorem get_eq {d : Dyn66} (h : goodD d) {r : List Int} (hr : isB r) : event_get (tmplD d) (strOfNums (bytD d ++ r)) = some (d, strOfNums r, true) := by
  cases d with
  | nil => exact h.elim
  | i89 x => simp only [event_get, tmplD, bytD, Option.bind_some, gnum h.1 h.2 hr]
  | i90 s =>
    have h' : s.size ≤ 100 := h
    simp only [event_get, tmplD, bytD, Option.bind_some, gtext h' hr]
  | i91 d =>
    have hz : z32.length = 32 := by simp [z32]
    simp only [event_get, tmplD, bytD, hz, if_true, Option.bind_some, gsum h.1 h.2 hr]
theorem set_mid {α : Type} (a : List α) (x y : α) (b : List α) : st (a ++ x :: b) (a.length : Int) y = (a ++ [y]) ++ b := by
  unfold st
  have : (a.length : Int).toNat = a.length := by omega
  rw [this, List.set_append_right _ _ (Nat.le_refl _)]
  simp
theorem gt_mid {α : Type} [Inhabited α] (a : List α) (x : α) (b : List α) : gt (a ++ x :: b) (a.length : Int) = x := by
  rw [gt_nat _ a.length (by simp)]
  simp
theorem Get_l0 (T : List Dyn66) (r : List Int) (hr : isB r) : ∀ (todo done : List Dyn66) (k : Nat), (∀ d ∈ todo, goodD d) → done.length + todo.length = T.length → T.length ≤ 1000 → todo.length < k →
    event_Get.l0 T k (strOfNums (todo.flatMap bytD ++ r)) (done ++ todo.map tmplD) (done.length : Int) = some (.inr (strOfNums r, done ++ todo))
  | [], done, k, _, h2, h3, h4 => by
    obtain ⟨k, rfl⟩ : ∃ m, k = m + 1 := ⟨k - 1, by omega⟩
    have hd : decide ((done.length : Int) < (T.length : Int)) = false := by simp at h2 ⊢; omega
    simp only [event_Get.l0, hd, Bool.false_eq_true, if_false]
    simp
  | d :: t, done, k, h1, h2, h3, h4 => by
    obtain ⟨k, rfl⟩ : ∃ m, k = m + 1 := ⟨k - 1, by omega⟩
    have hg : goodD d := h1 d (by simp)
    have ht : ∀ x ∈ t, goodD x := fun x hx => h1 x (by simp [hx])
    have hok : ∀ x ∈ t, okD x := fun x hx => by
      have := ht x hx
      cases x with
      | nil => exact this
      | i89 a => trivial
      | i90 s => have q : s.size ≤ 100 := this; show s.size ≤ 100000; omega
      | i91 d => exact this
    have hB : isB (t.flatMap bytD ++ r) := isB_app (isB_flat fun x hx => bytD_isB (hok x hx)) hr
    simp only [List.length_cons] at h2 h4
    have hd : decide ((done.length : Int) < (T.length : Int)) = true := by simp; omega
    have hl : (0 : Int) ≤ (done.length : Int) ∧ (done.length : Int) < ((done ++ tmplD d :: t.map tmplD).length : Int) := by
      simp only [List.length_append, List.length_cons, List.length_map]; omega
    have hw : wi64 ((done.length : Int) + 1) = (((done ++ [d]).length : Nat) : Int) := by rw [wi64_id (by omega)]; simp
    have ih := Get_l0 T r hr t (done ++ [d]) k ht (by simp only [List.length_append, List.length_cons, List.length_nil]; omega) h3 (by omega)
    simp only [event_Get.l0, hd, if_true, List.map_cons, hl, and_self, gt_mid, List.flatMap_cons, List.append_assoc, get_eq hg hB, Option.bind_some, Bool.not_true, Bool.false_eq_true, if_false]
    rw [set_mid, hw, ih]
    simp
theorem parts_tmpl (e : ApiEvent) : partsE ⟨e.Kind, 0, ⟨#[]⟩, 0, 0, z32⟩ = (partsE e).map tmplD := by
  rcases kinds e.Kind with k | k | k | k | k | k | k | k | ⟨k0, k4, k5, k1, k2, k3, k6, k7⟩
  all_goals first
    | (simp [partsE, k, tmplD]; done)
    | (simp [partsE, k0, k1, k2, k3, k4, k5, k6, k7])
theorem parts_good {e : ApiEvent} (h : okE e) (hN : e.Name.size ≤ 100) (hv : validE e = true) : ∀ d ∈ partsE e, goodD d := by
  obtain ⟨n1, n2, n3⟩ := valid_nums h hv
  have a1 : 0 ≤ e.ID ∧ e.ID ≤ 1125899906842624 := by omega
  have a2 : 0 ≤ e.Time ∧ e.Time ≤ 1125899906842624 := by omega
  have a3 : 0 ≤ e.Len ∧ e.Len ≤ 1125899906842624 := by omega
  intro d hd
  unfold partsE at hd
  repeat' split at hd
  all_goals simp at hd
  · rcases hd with rfl | rfl
    · exact a1
    · exact hN
  · rcases hd with rfl | rfl
    · exact a1
    · exact a3
  · rcases hd with rfl | rfl | rfl | rfl
    · exact a1
    · exact a2
    · exact a3
    · exact h.2
  · rcases hd with rfl | rfl
    · exact a1
    · exact a2
  · subst hd; exact a1
  · subst hd; exact a2
theorem Get_put {e : ApiEvent} (h : okE e) (hN : e.Name.size ≤ 100) (hv : validE e = true) {r : List Int} (hr : isB r) : event_Get (strOfNums (putE e ++ r)) = some (e, strOfNums r, true) := by
  have hk := valid_kind hv
  have hp := parts_ok h
  obtain ⟨f1, f2, f3⟩ := valid_form h hv
  have hB : isB ((partsE e).flatMap bytD ++ r) := isB_app (isB_flat fun x hx => bytD_isB (hp x hx)) hr
  have hlen := parts_len e
  have hF : FU = 4611686018427387904 := rfl
  unfold event_Get putE
  rw [List.append_assoc, gnum (by omega) (by omega) hB]
  have hk8 : ¬ e.Kind ≥ 8 := by omega
  have hpe : event_parts (ApiEvent.mk e.Kind 0 (⟨#[]⟩ : ByteArray) 0 0 (List.replicate 32 (0 : Int))) = some ((partsE e).map tmplD) := by
    rw [parts_eq]; exact congrArg some (parts_tmpl e)
  have hl := Get_l0 ((partsE e).map tmplD) r hr (partsE e) [] FU (parts_good h hN hv) (by simp) (by simp; omega) (by omega)
  simp only [List.nil_append, List.length_nil] at hl
  have hl' : event_Get.l0 ((partsE e).map tmplD) FU (strOfNums ((partsE e).flatMap bytD ++ r)) ((partsE e).map tmplD) 0 = some (.inr (strOfNums r, partsE e)) := hl
  have ho := of_eq h f1
  rw [f2] at ho
  simp only [Option.bind_some, Bool.not_true, Bool.false_eq_true, if_false, event_words, hk8, decide_false, hpe, hl', ho, event_Valid_eq h, hv]
end Go.Cen

/- CHAIN: each head is the digest of its input. -/
set_option linter.unusedVariables false
set_option linter.unusedSimpArgs false
set_option maxRecDepth 100000
namespace Go.Cen
theorem sx_head (a b : List Int) (h : a.length = 32) : sx (strOfNums (a ++ b)) 0 32 = strOfNums a := by
  rw [sx_str]
  have : (32 : Int).toNat = a.length := by rw [h]; rfl
  rw [this, List.take_left]; simp
theorem sx_tail (a b : List Int) (h : a.length = 32) : sx (strOfNums (a ++ b)) 32 ((32 + b.length : Nat) : Int) = strOfNums b := by
  rw [sx_str]
  have h1 : ((32 + b.length : Nat) : Int).toNat = (a ++ b).length := by rw [List.length_append, h]; omega
  have h2 : (32 : Int).toNat = a.length := by rw [h]; rfl
  rw [h1, List.take_length, h2, List.drop_left]
theorem few_names {l : List ApiEvent} (h : fewE l = true) : ∀ e ∈ l, e.Name.size ≤ 100 := by
  simp only [fewE, Bool.and_eq_true, decide_eq_true_eq] at h
  intro e he
  have ht : l.take 21 = l := List.take_of_length_le (by omega)
  rw [ht] at h
  have := List.all_eq_true.1 h.1 e he
  simpa using this
theorem law06_ChainInputs_eq (l : List ApiEvent) (i : Int) (s0 : sumsOk l) : law06_ChainInputs l i = some true := by
  unfold law06_ChainInputs
  simp only [works06, Option.bind_some, Bool.not_true, Bool.false_eq_true, if_false, Few_eq]
  cases hf : fewE l with
  | false => rfl
  | true =>
    obtain ⟨hl, hn⟩ := few_ok s0 hf
    have hnm := few_names hf
    simp only [Bool.not_true, Bool.false_eq_true, if_false, Heads_eq hl (by omega), Input_eq hl (by omega), Option.bind_some, if_true]
    cases hv : allV l with
    | false =>
      have : (if decide (i < 0) = true then some true else some (decide (i ≥ (([] : List (List Int)).length : Int)))) = some true := by
        by_cases q : i < 0
        · simp [q]
        · have : i ≥ 0 := by omega
          simp [q, this]
      simp only [Bool.false_eq_true, if_false, this, Option.bind_some, if_true, false_and, seq_refl]
    | true =>
      simp only [if_true, hds_len, true_and]
      by_cases q : i < 0
      · have : ¬ (0 ≤ i ∧ i < (l.length : Int) + 1) := by omega
        simp [q, this, seq_refl]
      by_cases q2 : i ≥ ((l.length + 1 : Nat) : Int)
      · have : ¬ (0 ≤ i ∧ i < (l.length : Int) + 1) := by omega
        simp only [q, q2, decide_false, decide_true, Bool.false_eq_true, if_false, Option.bind_some, if_true, this, seq_refl]
      have h3 : 0 ≤ i ∧ i < (l.length : Int) + 1 := by omega
      have h4 : 0 ≤ i ∧ i < ((l.length + 1 : Nat) : Int) := by omega
      obtain ⟨n, rfl⟩ : ∃ n : Nat, i = (n : Int) := ⟨i.toNat, by omega⟩
      simp only [q, q2, decide_false, Bool.false_eq_true, if_false, Option.bind_some, h3, h4, and_self, if_true]
      have hhd : gt (hds hd0 l) (n : Int) = fin hd0 (l.take n) := gt_some (hds_get l hd0 n (by omega))
      rw [hhd]
      cases n with
      | zero =>
        have hi : gt (inp c0 hd0 l) ((0 : Nat) : Int) = c0 := gt_some (inp_zero l c0 hd0)
        have hfin : fin hd0 (l.take 0) = hd0 := rfl
        rw [hi, hfin]
        have hz : (((0 : Nat) : Int) == 0) = true := rfl
        have hc : seq (strOfNums c0) (⟨#[99, 101, 110, 111, 116, 97, 112, 104]⟩ : ByteArray) = true := by rw [c0_eq]; exact seq_refl _
        simp only [hd0_eq.1, Option.bind_some, eqA_refl, Bool.not_true, Bool.false_eq_true, if_false, hz, if_true, hc]
      | succ n =>
        have hlt : n < l.length := by omega
        have he : okE l[n] := hl _ (List.getElem_mem hlt)
        have hve : validE l[n] = true := List.all_eq_true.1 hv _ (List.getElem_mem hlt)
        have hi : gt (inp c0 hd0 l) ((n + 1 : Nat) : Int) = fin hd0 (l.take n) ++ putE l[n] := gt_some (inp_get l c0 hd0 n hlt)
        have h32 := fin_ok hd0_eq.2.2.1 hd0_eq.2.2.2 (okL_take hl n)
        have hfin : fin hd0 (l.take (n + 1)) = nx (fin hd0 (l.take n)) l[n] := by
          rw [show l.take (n + 1) = l.take n ++ [l[n]] from by rw [List.take_add_one, List.getElem?_eq_getElem hlt]; rfl, fin_app]; rfl
        have hpl := putE_len he
        have hpp := putE_pos l[n]
        have hsz : ((strOfNums (fin hd0 (l.take n) ++ putE l[n])).size : Int) = ((32 + (putE l[n]).length : Nat) : Int) := by rw [strOfNums_size, List.length_append, h32.1]
        have hdg := (dg_eq (s := strOfNums (fin hd0 (l.take n) ++ putE l[n])) (by rw [strOfNums_size, List.length_append, h32.1]; omega)).1
        have hz : (((n + 1 : Nat) : Int) == 0) = false := by simp; omega
        have hm : (if ((32 + (putE l[n]).length : Nat) : Int) < 32 then ((32 + (putE l[n]).length : Nat) : Int) else 32) = 32 := by rw [if_neg (by omega)]
        have g1 : (0 : Int) ≤ 32 ∧ (32 : Int) ≤ ((32 + (putE l[n]).length : Nat) : Int) ∧ ((32 + (putE l[n]).length : Nat) : Int) ≤ ((32 + (putE l[n]).length : Nat) : Int) := by omega
        have g2 : (0 : Int) ≤ 0 ∧ (0 : Int) ≤ 32 ∧ (32 : Int) ≤ ((32 + (putE l[n]).length : Nat) : Int) := by omega
        have g3 : ((32 + (putE l[n]).length : Nat) : Int) > 32 := by omega
        have hw : wi64 (((n + 1 : Nat) : Int) - 1) = (n : Int) := by rw [wi64_id (by omega)]; omega
        have g4 : 0 ≤ (n : Int) ∧ (n : Int) < ((l.length + 1 : Nat) : Int) := by omega
        have g5 : 0 ≤ (n : Int) ∧ (n : Int) < (l.length : Int) := by omega
        have hgp := Get_put he (hnm _ (List.getElem_mem hlt)) hve (r := []) isB_nil
        rw [List.append_nil, strOfNums_nil] at hgp
        have hhn : gt (hds hd0 l) (n : Int) = fin hd0 (l.take n) := gt_some (hds_get l hd0 n (by omega))
        rw [hi, hfin]
        simp only [hdg, hsz, Option.bind_some, show dg (strOfNums (fin hd0 (l.take n) ++ putE l[n])) = nx (fin hd0 (l.take n)) l[n] from rfl, eqA_refl, Bool.not_true, Bool.false_eq_true, if_false, hz, hm, g1, and_self, if_true, sx_tail _ _ h32.1, hgp, g3, decide_true, g2, hw, g4, sx_head _ _ h32.1, hhn, seq_refl, g5, gt_nat l n hlt, event_eta]
end Go.Cen
