/- Loops over lists, plainly. No program in sight. -/
import Derived.Test.YtjbofffabkimeaaCenMa
import Derived.Test.YtjbofffabkimeaaCenOwn
set_option linter.unusedVariables false
set_option linter.unusedSimpArgs false
namespace Go.Cen
theorem orS (a b : Bool) : (if a = true then some true else some b) = some (a || b) := by cases a <;> rfl
theorem LIM_val : LIM = 1099511627776 := rfl
theorem gt_nat {α : Type} [Inhabited α] (xs : List α) (i : Nat) (h : i < xs.length) : gt xs (i : Int) = xs[i] := by
  simp [gt, List.getD_eq_getElem?_getD, h]
/-- a loop that counts up to `n` and then ends -/
theorem loopN {σ β : Type} (n : Nat) (hn : n ≤ 2305843009213693952) (L : Nat → Int → σ → β) (G : Nat → σ → β)
    (h0 : ∀ k s, L (k + 1) (n : Int) s = G n s)
    (h1 : ∀ k (i : Nat), i < n → wi64 ((i : Int) + 1) = ((i + 1 : Nat) : Int) → ∀ s, (∀ s', L k ((i + 1 : Nat) : Int) s' = G (i + 1) s') → L (k + 1) (i : Int) s = G i s) :
    ∀ s, L FU 0 s = G 0 s := by
  have key : ∀ d (i k : Nat), i + d = n → d < k → ∀ s, L k (i : Int) s = G i s := by
    intro d
    induction d with
    | zero =>
      intro i k hi hk s
      obtain ⟨k, rfl⟩ : ∃ m, k = m + 1 := ⟨k - 1, by omega⟩
      have : i = n := by omega
      subst this
      exact h0 k s
    | succ d ih =>
      intro i k hi hk s
      obtain ⟨k, rfl⟩ : ∃ m, k = m + 1 := ⟨k - 1, by omega⟩
      have hw : wi64 ((i : Int) + 1) = ((i + 1 : Nat) : Int) := by rw [wi64_id (by omega)]; omega
      exact h1 k i (by omega) hw s (fun s' => ih (i + 1) k (by omega) (by omega) s')
  intro s
  have := key n 0 FU (by omega) (by have : FU = 4611686018427387904 := rfl
                                    omega) s
  exact this
/-- a loop over a list, element by element -/
theorem loopG {α σ β : Type} [Inhabited α] (xs : List α) (hn : xs.length ≤ 2305843009213693952) (L : Nat → Int → σ → β) (G : List α → σ → β)
    (h0 : ∀ k s, decide (((xs.length : Nat) : Int) < (xs.length : Int)) = false → L (k + 1) (xs.length : Int) s = G [] s)
    (h1 : ∀ k (i : Nat) (x : α) (r : List α) s, i < xs.length → xs.length = i + 1 + r.length → decide ((i : Int) < (xs.length : Int)) = true → (0 ≤ (i : Int) ∧ (i : Int) < (xs.length : Int)) → gt xs (i : Int) = x →
      wi64 ((i : Int) + 1) = ((i + 1 : Nat) : Int) → (∀ s', L k ((i + 1 : Nat) : Int) s' = G r s') → L (k + 1) (i : Int) s = G (x :: r) s) :
    ∀ s, L FU 0 s = G xs s := by
  have h := loopN xs.length hn L (fun i s => G (xs.drop i) s) (fun k s => by
    rw [h0 k s (by simp)]; simp) (fun k i hi hw s ih => by
    have e : xs.drop i = xs[i] :: xs.drop (i + 1) := List.drop_eq_getElem_cons hi
    rw [e]
    exact h1 k i _ _ s hi (by simp; omega) (by simp [hi]) ⟨by omega, by omega⟩ (gt_nat xs i hi) hw ih)
  intro s
  simpa using h s
/-- the same, with what the state keeps -/
theorem loopNI {σ β : Type} (n : Nat) (hn : n ≤ 2305843009213693952) (L : Nat → Int → σ → β) (G : Nat → σ → β) (I : Nat → σ → Prop)
    (h0 : ∀ k s, I n s → L (k + 1) (n : Int) s = G n s)
    (h1 : ∀ k (i : Nat), i < n → wi64 ((i : Int) + 1) = ((i + 1 : Nat) : Int) → ∀ s, I i s → (∀ s', I (i + 1) s' → L k ((i + 1 : Nat) : Int) s' = G (i + 1) s') → L (k + 1) (i : Int) s = G i s) :
    ∀ s, I 0 s → L FU 0 s = G 0 s := by
  have key : ∀ d (i k : Nat), i + d = n → d < k → ∀ s, I i s → L k (i : Int) s = G i s := by
    intro d
    induction d with
    | zero =>
      intro i k hi hk s
      obtain ⟨k, rfl⟩ : ∃ m, k = m + 1 := ⟨k - 1, by omega⟩
      have : i = n := by omega
      subst this
      exact h0 k s
    | succ d ih =>
      intro i k hi hk s hs
      obtain ⟨k, rfl⟩ : ∃ m, k = m + 1 := ⟨k - 1, by omega⟩
      have hw : wi64 ((i : Int) + 1) = ((i + 1 : Nat) : Int) := by rw [wi64_id (by omega)]; omega
      exact h1 k i (by omega) hw s hs (fun s' => ih (i + 1) k (by omega) (by omega) s')
  intro s hs
  have := key n 0 FU (by omega) (by have : FU = 4611686018427387904 := rfl
                                    omega) s hs
  exact this
theorem loopI {α σ β : Type} [Inhabited α] (xs : List α) (hn : xs.length ≤ 2305843009213693952) (L : Nat → Int → σ → β) (G : List α → σ → β) (I : List α → σ → Prop)
    (h0 : ∀ k s, decide (((xs.length : Nat) : Int) < (xs.length : Int)) = false → I [] s → L (k + 1) (xs.length : Int) s = G [] s)
    (h1 : ∀ k (i : Nat) (x : α) (r : List α) s, i < xs.length → xs.length = i + 1 + r.length → x ∈ xs → decide ((i : Int) < (xs.length : Int)) = true → (0 ≤ (i : Int) ∧ (i : Int) < (xs.length : Int)) → gt xs (i : Int) = x →
      wi64 ((i : Int) + 1) = ((i + 1 : Nat) : Int) → I (x :: r) s → (∀ s', I r s' → L k ((i + 1 : Nat) : Int) s' = G r s') → L (k + 1) (i : Int) s = G (x :: r) s) :
    ∀ s, I xs s → L FU 0 s = G xs s := by
  have h := loopNI xs.length hn L (fun i s => G (xs.drop i) s) (fun i s => I (xs.drop i) s) (fun k s hs => by
    simp only [List.drop_length] at hs
    rw [h0 k s (by simp) hs]; simp) (fun k i hi hw s hs ih => by
    have e : xs.drop i = xs[i] :: xs.drop (i + 1) := List.drop_eq_getElem_cons hi
    rw [e] at hs ⊢
    exact h1 k i _ _ s hi (by simp; omega) (List.getElem_mem _) (by simp [hi]) ⟨by omega, by omega⟩ (gt_nat xs i hi) hw hs ih)
  intro s hs
  have := h s (by simpa using hs)
  simpa using this
theorem byts_len (s : ByteArray) : (byts s).length = s.size := by rw [byts, List.length_map]; rfl
theorem strOfNums_append {xs ys : List Int} : strOfNums xs ++ strOfNums ys = strOfNums (xs ++ ys) := by
  apply ByteArray.ext
  apply Array.toList_inj.1
  rw [ByteArray.data_append, Array.toList_append, strOfNums_data, strOfNums_data, strOfNums_data, List.map_append]
theorem strOfNums_size (xs : List Int) : (strOfNums xs).size = xs.length := by
  have : (strOfNums xs).data.toList.length = xs.length := by rw [strOfNums_data, List.length_map]
  exact this
theorem isB_nil : isB [] := fun x hx => by cases hx
theorem isB_app {xs ys : List Int} (hx : isB xs) (hy : isB ys) : isB (xs ++ ys) := fun x h => (List.mem_append.1 h).elim (hx x) (hy x)
theorem isB_flat {α : Type} {xs : List α} {f : α → List Int} (h : ∀ x ∈ xs, isB (f x)) : isB (xs.flatMap f) := fun x hx => by
  obtain ⟨a, ha, hx⟩ := List.mem_flatMap.1 hx
  exact h a ha x hx
theorem isB_take {xs : List Int} (h : isB xs) (n : Nat) : isB (xs.take n) := fun x hx => h x (List.mem_of_mem_take hx)
theorem isB_drop {xs : List Int} (h : isB xs) (n : Nat) : isB (xs.drop n) := fun x hx => h x (List.mem_of_mem_drop hx)
theorem bytesOk_iff (xs : List Int) : bytesOk xs = true ↔ isB xs := by
  simp only [bytesOk, List.all_eq_true, isB, Bool.and_eq_true, decide_eq_true_eq]
theorem sx_str {xs : List Int} (a b : Int) : sx (strOfNums xs) a b = strOfNums ((xs.take b.toNat).drop a.toNat) := by
  apply ByteArray.ext
  apply Array.toList_inj.1
  have : ((strOfNums xs).extract a.toNat b.toNat).data.toList = ((strOfNums xs).data.toList.take b.toNat).drop a.toNat := by simp [List.drop_take]
  rw [sx, this, strOfNums_data, strOfNums_data, List.map_drop, List.map_take]
theorem seq_str {xs ys : List Int} (hx : isB xs) (hy : isB ys) : seq (strOfNums xs) (strOfNums ys) = decide (xs = ys) := by
  rw [seq_byts, byts_strOfNums hx, byts_strOfNums hy]
theorem bt_str {xs : List Int} (hx : isB xs) (j : Int) : bt (strOfNums xs) j = gt xs j := by rw [bt_eq, byts_strOfNums hx]
end Go.Cen
