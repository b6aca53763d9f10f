/- Loops over lists, plainly. No program in sight. -/
import Derived.Test.YthdoklobbcedcacDoorCenMa
import Derived.Test.YthdoklobbcedcacDoorCenOwn
set_option linter.unusedVariables false
set_option linter.unusedSimpArgs false
namespace Go.Cen
theorem gt_nat {α : Type} [Inhabited α] (xs : List α) (i : Nat) (h : i < xs.length) : gt xs (i : Int) = xs[i] := by
  simp [gt, List.getD_eq_getElem?_getD, h]
/-- the same, with what the state keeps -/
theorem loopNI {σ β : Type} (n : Nat) (hn : n ≤ 2305843009213693952) (L : Nat → Int → σ → β) (G : Nat → σ → β) (I : Nat → σ → Prop)
    (h0 : ∀ k s, I n s → L (k + 1) (n : Int) s = G n s)
    (h1 : ∀ k (i : Nat), i < n → wi64 ((i : Int) + 1) = ((i + 1 : Nat) : Int) → ∀ s, I i s → (∀ s', I (i + 1) s' → L k ((i + 1 : Nat) : Int) s' = G (i + 1) s') → L (k + 1) (i : Int) s = G i s) :
    ∀ s, I 0 s → L FU 0 s = G 0 s := by
  have key : ∀ d (i k : Nat), i + d = n → d < k → ∀ s, I i s → L k (i : Int) s = G i s := by
    intro d
    induction d with
    | zero =>
      intro i k hi hk s
      obtain ⟨k, rfl⟩ : ∃ m, k = m + 1 := ⟨k - 1, by omega⟩
      have : i = n := by omega
      subst this
      exact h0 k s
    | succ d ih =>
      intro i k hi hk s hs
      obtain ⟨k, rfl⟩ : ∃ m, k = m + 1 := ⟨k - 1, by omega⟩
      have hw : wi64 ((i : Int) + 1) = ((i + 1 : Nat) : Int) := by rw [wi64_id (by omega)]; omega
      exact h1 k i (by omega) hw s hs (fun s' => ih (i + 1) k (by omega) (by omega) s')
  intro s hs
  have := key n 0 FU (by omega) (by have : FU = 4611686018427387904 := rfl
                                    omega) s hs
  exact this
end Go.Cen
