/- Slices of rows that are written out. No program in sight. -/
import Derived.Test.YtjbofffabkimeaaCenBld
set_option linter.unusedVariables false
set_option linter.unusedSimpArgs false
namespace Go.Cen
variable {ρ : Option Nat} {P : Program} {Q : Exit → Act → World → Prop} {N : FN} {ops : Array Oper} {i : Nat} {S S' : Sl} {w w' w0 : World} {K : Sl → World → Prop} {Z Z' : Hp} {A B R : HP} {C : World → Prop}
def enumV {α : Type} (vv : α → Value) : Nat → List α → List (Nat × Value)
  | _, [] => []
  | k, y :: r => (k, vv y) :: enumV vv (k + 1) r
theorem enum_fill {α : Type} {en : α → List Value} {sz : Nat} (vv : α → Value) (hv : ∀ y, (vv y).cells.toList = en y) : ∀ (ys pre : List α) (L : List Value), (∀ y ∈ pre, (en y).length = sz) → (∀ y ∈ ys, (en y).length = sz) → L.length = (pre.length + ys.length) * sz → L.take (pre.length * sz) = pre.flatMap en →
    Fill (fun i => some (i * sz, sz)) L (enumV vv pre.length ys) ((pre ++ ys).flatMap en)
  | [], pre, L, hp, _, hl, ht => by
    have : L = pre.flatMap en := by rw [← ht, List.take_of_length_le]; simp at hl; omega
    simp [enumV, this]
    exact .nil _
  | y :: r, pre, L, hp, hy, hl, ht => by
    have h1 := hy y (by simp)
    have hlen : pre.length * sz + sz ≤ L.length := by
      rw [hl]
      simp only [List.length_cons]
      have : (pre.length + 1) * sz ≤ (pre.length + (r.length + 1)) * sz := Nat.mul_le_mul_right _ (by omega)
      rw [Nat.add_mul, Nat.one_mul] at this
      exact this
    have hpl := flat_length pre hp
    refine .cons rfl (hv y) h1 (Nat.ble_eq_true_of_le hlen) rfl ?_
    have := enum_fill vv hv r (pre ++ [y]) (lset L (pre.length * sz) (en y)) (by
      intro z hz
      rcases List.mem_append.1 hz with hz | hz
      · exact hp z hz
      · rw [List.mem_singleton.1 hz]; exact h1) (fun z hz => hy z (by simp [hz])) (by rw [lset_length, hl]; simp only [List.length_append, List.length_cons, List.length_nil]; congr 1; omega) (by
      rw [lset_eq _ _ _ (by rw [h1]; exact hlen), ht]
      have e : (pre ++ [y]).length * sz = (pre.flatMap en ++ en y).length := by simp only [List.length_append, hpl, h1, List.length_cons, List.length_nil, Nat.add_mul, Nat.zero_add, Nat.one_mul]
      rw [e, List.take_left]
      simp)
    simpa using this
theorem Does.buildSliceAll {α : Type} {en : α → List Value} {d n : Nat} {T E : TypeId} {ps : List (Nat × Value)} {row : Bool} {sz by_ : Nat} {z : Value} (vv : α → Value) (hv : ∀ y, (vv y).cells.toList = en y) (ys : List α) (h : asBuildSlice N ops S i = some (d, T, n, ps)) (hps : ps = enumV vv 0 ys) (ht : P.underlying T = some (.slice E)) (hT : Ty P E row sz by_ z)
    (hn : ys.length = n) (hsz : Nat.blt 0 (n * sz) = true) (hsmall : Nat.ble (n * sz) 1000 = true) (hz : z.cells.size ≠ 0) (hy : ∀ y ∈ ys, (en y).length = sz)
    (hI : Inv w0 Z w A) (hk : ∀ g w', Inv w0 Z w' (star (ownS E en sz (some ⟨g, 0, none⟩) n ys) A) → K ((d, .slice (some ⟨g, 0, none⟩) n n) :: S) w') : Does P Q N ops i S w K := by
  refine Does.buildSlice ys h ht hT hn ?_ hsz hsmall hy hI hk
  subst hps
  have hf := enum_fill vv hv ys [] ((Array.range (n * sz)).map (fun k => z.cells[k % z.cells.size]!)).toList (fun _ h => by cases h) hy (by simp [hn]) (by simp)
  have hr := Fill.run hf
  rw [Array.toArray_toList] at hr
  simpa only [List.length_nil, List.nil_append] using hr
end Go.Cen
namespace Go.Cen
variable {P : Program} {N : FN} {ops : Array Oper} {i : Nat} {S : Sl} {Z : Hp} {C : World → Prop}
end Go.Cen
