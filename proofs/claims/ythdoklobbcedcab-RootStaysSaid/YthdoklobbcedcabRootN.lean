/- ROOT: rows put in their place, dropped and found. -/
import Derived.Test.YthdoklobbcedcabRootE
set_option linter.unusedVariables false
set_option linter.unusedSimpArgs false
namespace Go.Cen
theorem take_set_one {α : Type} : ∀ (l : List α) (i : Nat) (v : α), i < l.length → (l.set i v).take (i + 1) = l.take i ++ [v]
  | [], i, v, h => by simp at h
  | x :: l, 0, v, h => by simp
  | x :: l, i + 1, v, h => by
    have := take_set_one l i v (by simpa using h)
    simp [this]
/-! ### deleting: the loop -/
theorem loop_del {α : Type} [Inhabited α] (xs : List α) (hn : xs.length ≤ 2305843009213693952) (p : α → Bool) (i0 : Nat) (hi0 : i0 < xs.length) (hp0 : (xs.take (i0 + 1)).filter (fun x => !p x) = xs.take i0) (L : Nat → List α → Int → Int → Option (List α × Int))
    (h0 : ∀ k ys (i : Nat), ys.length = xs.length → decide (((xs.length : Nat) : Int) < (ys.length : Int)) = false → L (k + 1) ys (i : Int) (xs.length : Int) = some (ys, (i : Int)))
    (h1 : ∀ k ys (i j : Nat), ys.length = xs.length → i < j → j < xs.length → decide ((j : Int) < (ys.length : Int)) = true → (0 ≤ (j : Int) ∧ (j : Int) < (ys.length : Int)) → (0 ≤ (i : Int) ∧ (i : Int) < (ys.length : Int)) →
      wi64 ((i : Int) + 1) = ((i + 1 : Nat) : Int) → wi64 ((j : Int) + 1) = ((j + 1 : Nat) : Int) →
      L (k + 1) ys (i : Int) (j : Int) = if p (gt ys (j : Int)) = true then L k ys (i : Int) ((j + 1 : Nat) : Int) else L k (st ys (i : Int) (gt ys (j : Int))) ((i + 1 : Nat) : Int) ((j + 1 : Nat) : Int)) :
    ∃ (ys : List α) (i : Nat), L FU xs (i0 : Int) ((i0 + 1 : Nat) : Int) = some (ys, (i : Int)) ∧ ys.length = xs.length ∧ i ≤ xs.length ∧ ys.take i = xs.filter (fun x => !p x) := by
  have key : ∀ (d i j k : Nat) (ys : List α), j + d = xs.length → d < k → i < j → ys.length = xs.length → ys.take i = (xs.take j).filter (fun x => !p x) → ys.drop j = xs.drop j →
      ∃ (zs : List α) (i' : Nat), L k ys (i : Int) (j : Int) = some (zs, (i' : Int)) ∧ zs.length = xs.length ∧ i' ≤ xs.length ∧ zs.take i' = xs.filter (fun x => !p x) := by
    intro d
    induction d with
    | zero =>
      intro i j k ys hj hk hij hl ht hd
      obtain ⟨k, rfl⟩ : ∃ m, k = m + 1 := ⟨k - 1, by omega⟩
      have : j = xs.length := by omega
      subst this
      refine ⟨ys, i, h0 k ys i hl (by simp [hl]), hl, by omega, ?_⟩
      rw [ht, List.take_length]
    | succ d ih =>
      intro i j k ys hj hk hij hl ht hd
      obtain ⟨k, rfl⟩ : ∃ m, k = m + 1 := ⟨k - 1, by omega⟩
      have hjl : j < xs.length := by omega
      rw [h1 k ys i j hl hij hjl (by simp; omega) ⟨by omega, by omega⟩ ⟨by omega, by omega⟩ (by rw [wi64_id (by omega)]; omega) (by rw [wi64_id (by omega)]; omega)]
      have hg : gt ys (j : Int) = ys[j]'(by omega) := gt_nat ys j (by omega)
      have hyx : ys[j]'(by omega) = xs[j] := by
        have a : (ys.drop j)[0]? = (xs.drop j)[0]? := by rw [hd]
        rw [List.getElem?_drop, List.getElem?_drop, Nat.add_zero, List.getElem?_eq_getElem (by omega), List.getElem?_eq_getElem hjl] at a
        exact Option.some.inj a
      have htake : xs.take (j + 1) = xs.take j ++ [xs[j]] := (List.take_succ_eq_append_getElem hjl)
      have hdrop : ys.drop (j + 1) = xs.drop (j + 1) := by
        have := congrArg (List.drop 1) hd
        rwa [List.drop_drop, List.drop_drop] at this
      rw [hg, hyx]
      by_cases hp : p xs[j] = true
      · rw [if_pos hp]
        refine ih i (j + 1) k ys (by omega) (by omega) (by omega) hl ?_ hdrop
        rw [htake, List.filter_append, ht]
        simp [hp]
      · rw [if_neg hp]
        refine ih (i + 1) (j + 1) k _ (by omega) (by omega) (by omega) (by simp [st, hl]) ?_ ?_
        · rw [htake, List.filter_append, ← ht]
          unfold st
          rw [Int.toNat_natCast, take_set_one _ _ _ (by omega)]
          simp [hp]
        · unfold st
          rw [Int.toNat_natCast, List.drop_set_of_lt (by omega)]
          exact hdrop
  have hF : FU = 4611686018427387904 := rfl
  have h := key (xs.length - (i0 + 1)) i0 (i0 + 1) FU xs (by omega) (by omega) (by omega) rfl hp0.symm rfl
  exact h
theorem fidx_first {α : Type} (p : α → Bool) : ∀ (xs : List α) (n : Nat), fidx p xs = (n : Int) → n < xs.length ∧ (xs.take n).all (fun x => !p x) = true ∧ ∃ x, xs.drop n = x :: xs.drop (n + 1) ∧ p x = true
  | [], n, h => by rw [fidx_nil] at h; omega
  | x :: r, n, h => by
    rw [fidx_cons] at h
    by_cases hp : p x = true
    · rw [if_pos hp] at h
      have : n = 0 := by omega
      subst this
      exact ⟨by simp, by simp, x, by simp, hp⟩
    · rw [if_neg hp] at h
      by_cases h2 : fidx p r < 0
      · rw [if_pos h2] at h; omega
      · rw [if_neg h2] at h
        obtain ⟨m, rfl⟩ : ∃ m, n = m + 1 := ⟨n - 1, by omega⟩
        obtain ⟨a, b, y, c, d⟩ := fidx_first p r m (by omega)
        refine ⟨by simpa using a, ?_, y, by simpa using c, d⟩
        simp [hp] at b ⊢
        exact b
theorem fidx_neg {α : Type} (p : α → Bool) (xs : List α) (h : fidx p xs < 0) : xs.all (fun x => !p x) = true := by
  have h4 := fidx_any p xs
  have h5 : decide (fidx p xs ≥ 0) = false := by simp; omega
  rw [h5] at h4
  rw [List.all_eq_not_any_not]
  simp [← h4]
theorem filter_all {α : Type} {q : α → Bool} {xs : List α} (h : xs.all q = true) : xs.filter q = xs := List.filter_eq_self.2 (fun a ha => List.all_eq_true.1 h a ha)
/-- what is deleted: the whole function's result out of its loop's -/
theorem del_end {α : Type} [Inhabited α] (z : α) {xs ys : List α} {q : α → Bool} {i : Nat} (hl : ys.length = xs.length) (hi : i ≤ xs.length) (h : ys.take i = xs.filter q) :
    (if (0 : Int) ≤ (i : Int) ∧ (i : Int) ≤ (ys.length : Int) ∧ (ys.length : Int) ≤ (ys.length : Int) then (if (0 : Int) ≤ (0 : Int) ∧ (0 : Int) ≤ (i : Int) ∧ (i : Int) ≤ ((clr z ys (i : Int)).length : Int) then some (sub (clr z ys (i : Int)) 0 (i : Int)) else none) else none) = some (xs.filter q) := by
  have hc : (clr z ys (i : Int)).length = ys.length := by simp [clr]; omega
  rw [if_pos (by omega), if_pos (by rw [hc]; omega)]
  congr 1
  rw [← h]
  simp only [sub, clr, Int.toNat_zero, List.drop_zero, Nat.sub_zero, Int.toNat_natCast]
  rw [List.take_append_of_le_length (by simp; omega), List.take_take, Nat.min_self]
end Go.Cen
