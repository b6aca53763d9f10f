/- Loops over lists, plainly. No program in sight. -/
import Derived.Test.YthdoklobbcedcadDoorCenMa
import Derived.Test.YthdoklobbcedcadDoorCenOwn
set_option linter.unusedVariables false
set_option linter.unusedSimpArgs false
namespace Go.Cen
theorem gt_nat {α : Type} [Inhabited α] (xs : List α) (i : Nat) (h : i < xs.length) : gt xs (i : Int) = xs[i] := by
  simp [gt, List.getD_eq_getElem?_getD, h]
/-- a loop that counts up to `n` and then ends -/
theorem loopN {σ β : Type} (n : Nat) (hn : n ≤ 2305843009213693952) (L : Nat → Int → σ → β) (G : Nat → σ → β)
    (h0 : ∀ k s, L (k + 1) (n : Int) s = G n s)
    (h1 : ∀ k (i : Nat), i < n → wi64 ((i : Int) + 1) = ((i + 1 : Nat) : Int) → ∀ s, (∀ s', L k ((i + 1 : Nat) : Int) s' = G (i + 1) s') → L (k + 1) (i : Int) s = G i s) :
    ∀ s, L FU 0 s = G 0 s := by
  have key : ∀ d (i k : Nat), i + d = n → d < k → ∀ s, L k (i : Int) s = G i s := by
    intro d
    induction d with
    | zero =>
      intro i k hi hk s
      obtain ⟨k, rfl⟩ : ∃ m, k = m + 1 := ⟨k - 1, by omega⟩
      have : i = n := by omega
      subst this
      exact h0 k s
    | succ d ih =>
      intro i k hi hk s
      obtain ⟨k, rfl⟩ : ∃ m, k = m + 1 := ⟨k - 1, by omega⟩
      have hw : wi64 ((i : Int) + 1) = ((i + 1 : Nat) : Int) := by rw [wi64_id (by omega)]; omega
      exact h1 k i (by omega) hw s (fun s' => ih (i + 1) k (by omega) (by omega) s')
  intro s
  have := key n 0 FU (by omega) (by have : FU = 4611686018427387904 := rfl
                                    omega) s
  exact this
/-- two lists of the same length, compared one by one -/
theorem loop_eq {α β : Type} [Inhabited α] [Inhabited β] (xs : List α) (ys : List β) (hl : xs.length = ys.length) (hn : xs.length ≤ 2305843009213693952) (e : α → β → Bool) (L : Nat → Int → Option (Bool ⊕ Unit))
    (h0 : ∀ k, decide (((xs.length : Nat) : Int) < (xs.length : Int)) = false → L (k + 1) (xs.length : Int) = some (.inr ()))
    (h1 : ∀ k (i : Nat), i < xs.length → decide ((i : Int) < (xs.length : Int)) = true → (0 ≤ (i : Int) ∧ (i : Int) < (xs.length : Int)) → (0 ≤ (i : Int) ∧ (i : Int) < (ys.length : Int)) →
      wi64 ((i : Int) + 1) = ((i + 1 : Nat) : Int) → L (k + 1) (i : Int) = if e (gt xs (i : Int)) (gt ys (i : Int)) = true then L k ((i + 1 : Nat) : Int) else some (.inl false)) :
    L FU 0 = some (if (xs.zip ys).all (fun p => e p.1 p.2) = true then .inr () else .inl false) := by
  have h := loopN xs.length hn (fun k i (_ : Unit) => L k i) (fun i _ => some (if ((xs.drop i).zip (ys.drop i)).all (fun p => e p.1 p.2) = true then .inr () else .inl false)) (fun k s => by
    have := h0 k (by simp)
    simp [this]) (fun k i hi hw s ih => by
    have e1 : xs.drop i = xs[i] :: xs.drop (i + 1) := List.drop_eq_getElem_cons hi
    have e2 : ys.drop i = ys[i] :: ys.drop (i + 1) := List.drop_eq_getElem_cons (by omega)
    have h2 := h1 k i hi (by simp [hi]) ⟨by omega, by omega⟩ ⟨by omega, by omega⟩ hw
    rw [gt_nat xs i hi, gt_nat ys i (by omega)] at h2
    have ih' := ih ()
    show L (k + 1) (i : Int) = some (if ((xs.drop i).zip (ys.drop i)).all (fun p => e p.1 p.2) = true then .inr () else .inl false)
    rw [h2, e1, e2, List.zip_cons_cons, List.all_cons, show L k ((i + 1 : Nat) : Int) = _ from ih']
    by_cases hp : e xs[i] ys[i] = true
    · simp only [hp, if_true, Bool.true_and]
    · simp [hp])
  have h := h ()
  simp only [List.drop_zero] at h
  exact h
theorem zip_all_eq {α : Type} (e : α → α → Bool) (he : ∀ x y, e x y = true ↔ x = y) : ∀ (xs ys : List α), xs.length = ys.length → ((xs.zip ys).all (fun p => e p.1 p.2) = true ↔ xs = ys)
  | [], [], _ => by simp
  | x :: xs, y :: ys, h => by
    have := zip_all_eq e he xs ys (by simpa using h)
    rw [List.zip_cons_cons, List.all_cons, Bool.and_eq_true, this, he]
    simp
theorem byts_len (s : ByteArray) : (byts s).length = s.size := by rw [byts, List.length_map]; rfl
end Go.Cen
