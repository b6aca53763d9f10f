/- Loops over lists, plainly. No program in sight. -/
import Derived.Test.YtlojedndicppeaaGreatDoorCenMa
import Derived.Test.YtlojedndicppeaaGreatDoorCenOwn
set_option linter.unusedVariables false
set_option linter.unusedSimpArgs false
namespace Go.Cen
theorem orS (a b : Bool) : (if a = true then some true else some b) = some (a || b) := by cases a <;> rfl
theorem andS (a b : Bool) : (if a = true then some b else some false) = some (a && b) := by cases a <;> rfl
theorem LIM_val : LIM = 1099511627776 := rfl
theorem gt_nat {α : Type} [Inhabited α] (xs : List α) (i : Nat) (h : i < xs.length) : gt xs (i : Int) = xs[i] := by
  simp [gt, List.getD_eq_getElem?_getD, h]
/-- a loop that counts up to `n` and then ends -/
theorem loopN {σ β : Type} (n : Nat) (hn : n ≤ 2305843009213693952) (L : Nat → Int → σ → β) (G : Nat → σ → β)
    (h0 : ∀ k s, L (k + 1) (n : Int) s = G n s)
    (h1 : ∀ k (i : Nat), i < n → wi64 ((i : Int) + 1) = ((i + 1 : Nat) : Int) → ∀ s, (∀ s', L k ((i + 1 : Nat) : Int) s' = G (i + 1) s') → L (k + 1) (i : Int) s = G i s) :
    ∀ s, L FU 0 s = G 0 s := by
  have key : ∀ d (i k : Nat), i + d = n → d < k → ∀ s, L k (i : Int) s = G i s := by
    intro d
    induction d with
    | zero =>
      intro i k hi hk s
      obtain ⟨k, rfl⟩ : ∃ m, k = m + 1 := ⟨k - 1, by omega⟩
      have : i = n := by omega
      subst this
      exact h0 k s
    | succ d ih =>
      intro i k hi hk s
      obtain ⟨k, rfl⟩ : ∃ m, k = m + 1 := ⟨k - 1, by omega⟩
      have hw : wi64 ((i : Int) + 1) = ((i + 1 : Nat) : Int) := by rw [wi64_id (by omega)]; omega
      exact h1 k i (by omega) hw s (fun s' => ih (i + 1) k (by omega) (by omega) s')
  intro s
  have := key n 0 FU (by omega) (by have : FU = 4611686018427387904 := rfl
                                    omega) s
  exact this
/-- a loop over a list, element by element -/
theorem loopG {α σ β : Type} [Inhabited α] (xs : List α) (hn : xs.length ≤ 2305843009213693952) (L : Nat → Int → σ → β) (G : List α → σ → β)
    (h0 : ∀ k s, decide (((xs.length : Nat) : Int) < (xs.length : Int)) = false → L (k + 1) (xs.length : Int) s = G [] s)
    (h1 : ∀ k (i : Nat) (x : α) (r : List α) s, i < xs.length → xs.length = i + 1 + r.length → decide ((i : Int) < (xs.length : Int)) = true → (0 ≤ (i : Int) ∧ (i : Int) < (xs.length : Int)) → gt xs (i : Int) = x →
      wi64 ((i : Int) + 1) = ((i + 1 : Nat) : Int) → (∀ s', L k ((i + 1 : Nat) : Int) s' = G r s') → L (k + 1) (i : Int) s = G (x :: r) s) :
    ∀ s, L FU 0 s = G xs s := by
  have h := loopN xs.length hn L (fun i s => G (xs.drop i) s) (fun k s => by
    rw [h0 k s (by simp)]; simp) (fun k i hi hw s ih => by
    have e : xs.drop i = xs[i] :: xs.drop (i + 1) := List.drop_eq_getElem_cons hi
    rw [e]
    exact h1 k i _ _ s hi (by simp; omega) (by simp [hi]) ⟨by omega, by omega⟩ (gt_nat xs i hi) hw ih)
  intro s
  simpa using h s
/-- the same, with what the state keeps -/
theorem loopNI {σ β : Type} (n : Nat) (hn : n ≤ 2305843009213693952) (L : Nat → Int → σ → β) (G : Nat → σ → β) (I : Nat → σ → Prop)
    (h0 : ∀ k s, I n s → L (k + 1) (n : Int) s = G n s)
    (h1 : ∀ k (i : Nat), i < n → wi64 ((i : Int) + 1) = ((i + 1 : Nat) : Int) → ∀ s, I i s → (∀ s', I (i + 1) s' → L k ((i + 1 : Nat) : Int) s' = G (i + 1) s') → L (k + 1) (i : Int) s = G i s) :
    ∀ s, I 0 s → L FU 0 s = G 0 s := by
  have key : ∀ d (i k : Nat), i + d = n → d < k → ∀ s, I i s → L k (i : Int) s = G i s := by
    intro d
    induction d with
    | zero =>
      intro i k hi hk s
      obtain ⟨k, rfl⟩ : ∃ m, k = m + 1 := ⟨k - 1, by omega⟩
      have : i = n := by omega
      subst this
      exact h0 k s
    | succ d ih =>
      intro i k hi hk s hs
      obtain ⟨k, rfl⟩ : ∃ m, k = m + 1 := ⟨k - 1, by omega⟩
      have hw : wi64 ((i : Int) + 1) = ((i + 1 : Nat) : Int) := by rw [wi64_id (by omega)]; omega
      exact h1 k i (by omega) hw s hs (fun s' => ih (i + 1) k (by omega) (by omega) s')
  intro s hs
  have := key n 0 FU (by omega) (by have : FU = 4611686018427387904 := rfl
                                    omega) s hs
  exact this
theorem loopI {α σ β : Type} [Inhabited α] (xs : List α) (hn : xs.length ≤ 2305843009213693952) (L : Nat → Int → σ → β) (G : List α → σ → β) (I : List α → σ → Prop)
    (h0 : ∀ k s, decide (((xs.length : Nat) : Int) < (xs.length : Int)) = false → I [] s → L (k + 1) (xs.length : Int) s = G [] s)
    (h1 : ∀ k (i : Nat) (x : α) (r : List α) s, i < xs.length → xs.length = i + 1 + r.length → x ∈ xs → decide ((i : Int) < (xs.length : Int)) = true → (0 ≤ (i : Int) ∧ (i : Int) < (xs.length : Int)) → gt xs (i : Int) = x →
      wi64 ((i : Int) + 1) = ((i + 1 : Nat) : Int) → I (x :: r) s → (∀ s', I r s' → L k ((i + 1 : Nat) : Int) s' = G r s') → L (k + 1) (i : Int) s = G (x :: r) s) :
    ∀ s, I xs s → L FU 0 s = G xs s := by
  have h := loopNI xs.length hn L (fun i s => G (xs.drop i) s) (fun i s => I (xs.drop i) s) (fun k s hs => by
    simp only [List.drop_length] at hs
    rw [h0 k s (by simp) hs]; simp) (fun k i hi hw s hs ih => by
    have e : xs.drop i = xs[i] :: xs.drop (i + 1) := List.drop_eq_getElem_cons hi
    rw [e] at hs ⊢
    exact h1 k i _ _ s hi (by simp; omega) (List.getElem_mem _) (by simp [hi]) ⟨by omega, by omega⟩ (gt_nat xs i hi) hw hs ih)
  intro s hs
  have := h s (by simpa using hs)
  simpa using this
/-- where the first one is that `p` likes, else -1 -/
def fidx {α : Type} (p : α → Bool) : List α → Int
  | [] => -1
  | x :: r => if p x then 0 else if fidx p r < 0 then -1 else fidx p r + 1
theorem fidx_cons {α : Type} (p : α → Bool) (x : α) (r : List α) : fidx p (x :: r) = if p x then 0 else if fidx p r < 0 then -1 else fidx p r + 1 := rfl
theorem fidx_ge {α : Type} (p : α → Bool) (xs : List α) : -1 ≤ fidx p xs := by
  induction xs with
  | nil => exact Int.le_refl _
  | cons x r ih => rw [fidx_cons]; split <;> (try split) <;> omega
/-- the same, as the loops count it -/
def fidxS {α : Type} (p : α → Bool) : List α → Nat → Int ⊕ Unit
  | [], _ => .inr ()
  | x :: r, i => if p x then .inl (i : Int) else fidxS p r (i + 1)
theorem fidxS_eq {α : Type} (p : α → Bool) (xs : List α) (i : Nat) : fidxS p xs i = if fidx p xs < 0 then .inr () else .inl (fidx p xs + i) := by
  induction xs generalizing i with
  | nil => rfl
  | cons x r ih =>
    rw [fidxS, fidx_cons, ih]
    have hg := fidx_ge p r
    by_cases h : p x = true
    · simp [h]
    · simp only [if_neg h]
      by_cases h2 : fidx p r < 0
      · simp [if_pos h2]
      · have h3 : ¬ fidx p r + 1 < 0 := by omega
        rw [if_neg h2, if_neg h2, if_neg h3]
        congr 1
        push_cast; omega
theorem fidx_any {α : Type} (p : α → Bool) (xs : List α) : decide (fidx p xs ≥ 0) = xs.any p := by
  induction xs with
  | nil => rfl
  | cons x r ih =>
    rw [fidx_cons, List.any_cons, ← ih]
    have := fidx_ge p r
    by_cases h : p x = true
    · simp [h]
    · rw [if_neg h]
      have h' : p x = false := by simpa using h
      rw [h', Bool.false_or]
      by_cases h2 : fidx p r < 0
      · rw [if_pos h2]
        have : ¬ fidx p r ≥ 0 := by omega
        simp [this]
      · rw [if_neg h2]
        have h3 : fidx p r ≥ 0 := by omega
        have h4 : fidx p r + 1 ≥ 0 := by omega
        simp [h3, h4]
/-- a search loop: `L` counts i, tells where `p` holds first -/
theorem loop_idx {α β : Type} [Inhabited α] (xs : List α) (hn : xs.length ≤ 2305843009213693952) (p : α → Bool) (f : Int → β) (L : Nat → Int → Option (β ⊕ Unit))
    (h0 : ∀ k, decide (((xs.length : Nat) : Int) < (xs.length : Int)) = false → L (k + 1) (xs.length : Int) = some (.inr ()))
    (h1 : ∀ k (i : Nat), i < xs.length → decide ((i : Int) < (xs.length : Int)) = true → (0 ≤ (i : Int) ∧ (i : Int) < (xs.length : Int)) →
      wi64 ((i : Int) + 1) = ((i + 1 : Nat) : Int) → L (k + 1) (i : Int) = if p (gt xs (i : Int)) = true then some (.inl (f (i : Int))) else L k ((i + 1 : Nat) : Int)) :
    L FU 0 = some (if fidx p xs < 0 then .inr () else .inl (f (fidx p xs))) := by
  have h := loopN xs.length hn (fun k i (_ : Unit) => L k i) (fun i _ => some (match fidxS p (xs.drop i) i with | .inr _ => .inr () | .inl v => .inl (f v))) (fun k s => by
    have := h0 k (by simp)
    simp [this, fidxS]) (fun k i hi hw s ih => by
    have e : xs.drop i = xs[i] :: xs.drop (i + 1) := List.drop_eq_getElem_cons hi
    have h2 := h1 k i hi (by simp [hi]) ⟨by omega, by omega⟩ hw
    rw [gt_nat xs i hi] at h2
    have ih' := ih ()
    show L (k + 1) (i : Int) = _
    rw [h2, e, show L k ((i + 1 : Nat) : Int) = _ from ih']
    simp only [fidxS]
    by_cases hp : p xs[i] = true
    · simp [hp]
    · simp [hp])
  have h := h ()
  simp only [List.drop_zero, fidxS_eq] at h
  rw [h]
  by_cases h2 : fidx p xs < 0
  · simp [h2]
  · simp [h2]
/-- two lists of the same length, compared one by one -/
theorem loop_eq {α β : Type} [Inhabited α] [Inhabited β] (xs : List α) (ys : List β) (hl : xs.length = ys.length) (hn : xs.length ≤ 2305843009213693952) (e : α → β → Bool) (L : Nat → Int → Option (Bool ⊕ Unit))
    (h0 : ∀ k, decide (((xs.length : Nat) : Int) < (xs.length : Int)) = false → L (k + 1) (xs.length : Int) = some (.inr ()))
    (h1 : ∀ k (i : Nat), i < xs.length → decide ((i : Int) < (xs.length : Int)) = true → (0 ≤ (i : Int) ∧ (i : Int) < (xs.length : Int)) → (0 ≤ (i : Int) ∧ (i : Int) < (ys.length : Int)) →
      wi64 ((i : Int) + 1) = ((i + 1 : Nat) : Int) → L (k + 1) (i : Int) = if e (gt xs (i : Int)) (gt ys (i : Int)) = true then L k ((i + 1 : Nat) : Int) else some (.inl false)) :
    L FU 0 = some (if (xs.zip ys).all (fun p => e p.1 p.2) = true then .inr () else .inl false) := by
  have h := loopN xs.length hn (fun k i (_ : Unit) => L k i) (fun i _ => some (if ((xs.drop i).zip (ys.drop i)).all (fun p => e p.1 p.2) = true then .inr () else .inl false)) (fun k s => by
    have := h0 k (by simp)
    simp [this]) (fun k i hi hw s ih => by
    have e1 : xs.drop i = xs[i] :: xs.drop (i + 1) := List.drop_eq_getElem_cons hi
    have e2 : ys.drop i = ys[i] :: ys.drop (i + 1) := List.drop_eq_getElem_cons (by omega)
    have h2 := h1 k i hi (by simp [hi]) ⟨by omega, by omega⟩ ⟨by omega, by omega⟩ hw
    rw [gt_nat xs i hi, gt_nat ys i (by omega)] at h2
    have ih' := ih ()
    show L (k + 1) (i : Int) = some (if ((xs.drop i).zip (ys.drop i)).all (fun p => e p.1 p.2) = true then .inr () else .inl false)
    rw [h2, e1, e2, List.zip_cons_cons, List.all_cons, show L k ((i + 1 : Nat) : Int) = _ from ih']
    by_cases hp : e xs[i] ys[i] = true
    · simp only [hp, if_true, Bool.true_and]
    · simp [hp])
  have h := h ()
  simp only [List.drop_zero] at h
  exact h
theorem zip_all_eq {α : Type} (e : α → α → Bool) (he : ∀ x y, e x y = true ↔ x = y) : ∀ (xs ys : List α), xs.length = ys.length → ((xs.zip ys).all (fun p => e p.1 p.2) = true ↔ xs = ys)
  | [], [], _ => by simp
  | x :: xs, y :: ys, h => by
    have := zip_all_eq e he xs ys (by simpa using h)
    rw [List.zip_cons_cons, List.all_cons, Bool.and_eq_true, this, he]
    simp
theorem byts_len (s : ByteArray) : (byts s).length = s.size := by rw [byts, List.length_map]; rfl
theorem strOfNums_append {xs ys : List Int} : strOfNums xs ++ strOfNums ys = strOfNums (xs ++ ys) := by
  apply ByteArray.ext
  apply Array.toList_inj.1
  rw [ByteArray.data_append, Array.toList_append, strOfNums_data, strOfNums_data, strOfNums_data, List.map_append]
theorem strOfNums_size (xs : List Int) : (strOfNums xs).size = xs.length := by
  have : (strOfNums xs).data.toList.length = xs.length := by rw [strOfNums_data, List.length_map]
  exact this
theorem isB_nil : isB [] := fun x hx => by cases hx
theorem isB_app {xs ys : List Int} (hx : isB xs) (hy : isB ys) : isB (xs ++ ys) := fun x h => (List.mem_append.1 h).elim (hx x) (hy x)
theorem isB_flat {α : Type} {xs : List α} {f : α → List Int} (h : ∀ x ∈ xs, isB (f x)) : isB (xs.flatMap f) := fun x hx => by
  obtain ⟨a, ha, hx⟩ := List.mem_flatMap.1 hx
  exact h a ha x hx
theorem isB_take {xs : List Int} (h : isB xs) (n : Nat) : isB (xs.take n) := fun x hx => h x (List.mem_of_mem_take hx)
theorem isB_drop {xs : List Int} (h : isB xs) (n : Nat) : isB (xs.drop n) := fun x hx => h x (List.mem_of_mem_drop hx)
theorem bytesOk_iff (xs : List Int) : bytesOk xs = true ↔ isB xs := by
  simp only [bytesOk, List.all_eq_true, isB, Bool.and_eq_true, decide_eq_true_eq]
theorem sx_str {xs : List Int} (a b : Int) : sx (strOfNums xs) a b = strOfNums ((xs.take b.toNat).drop a.toNat) := by
  apply ByteArray.ext
  apply Array.toList_inj.1
  have : ((strOfNums xs).extract a.toNat b.toNat).data.toList = ((strOfNums xs).data.toList.take b.toNat).drop a.toNat := by simp [List.drop_take]
  rw [sx, this, strOfNums_data, strOfNums_data, List.map_drop, List.map_take]
theorem bt_str {xs : List Int} (hx : isB xs) (j : Int) : bt (strOfNums xs) j = gt xs j := by rw [bt_eq, byts_strOfNums hx]
end Go.Cen
