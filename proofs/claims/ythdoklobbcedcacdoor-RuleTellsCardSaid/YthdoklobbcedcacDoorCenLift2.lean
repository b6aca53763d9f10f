/- More rules of a walk: regions by a list, equality, parts of strings and slices. No program in sight. -/
import Derived.Test.YthdoklobbcedcacDoorCenLift
import Derived.ChangeKeysEq
import Derived.Laws.StructEq
set_option linter.unusedVariables false
set_option linter.unusedSimpArgs false
namespace Go.Cen
variable {ρ : Option Nat} {P : Program} {Q : Exit → Act → World → Prop} {N : FN} {ops : Array Oper} {S S' : Sl} {a : Act} {w0 w w' : World} {K : Sl → World → Prop} {i : Nat} {Z Z' : Hp} {A B R : HP} {C : World → Prop}
theorem CodT.regionL {id : Nat} (l : List Nat) (hn : List.range ops.size = l) (h : OpsT P ops Q N l S w) : CodT ρ P (.region id ops false) Q N S w :=
  fun a ha => wpIn_region (by rw [hn]; exact opsW_in (h a ha))
theorem CodT.drawI {id n : Nat} (ts : List Nat) (hm : P.follows .mixedOrders = true) (hn : ops.size = n) (hI : Inv w0 Z w A)
    (h : ∀ w, Inv w0 Z w A → GmT P ops (NoPanic Q) (fun w => Inv w0 Z w A) ts N n (lst n []) S w) : CodT ρ P (.region id ops true) Q N S w :=
  CodT.drawL _ ts hm hn (h _ (hI.drawn _))
theorem CodT.meet1 {x : Code} (J : Act → World → Prop) (h : CodT ρ P x (Exit.then J Q) N S w) (k : ∀ a w, J a w → Q .normal a w) : CodT ρ P x Q N S w :=
  fun a ha => wpIn_mono (h a ha) fun e a' w' q => by cases e <;> first | exact k a' w' q | exact q
theorem Qn.of {e : Exit} (h : Qn Q e N S w) (ha : Fr N S a) : Q e a w := h a ha
theorem len_all {α : Type} {en : α → List Value} {sz : Nat} {ys : List α} (h : ∀ y, (en y).length = sz) : ∀ y ∈ ys, (en y).length = sz := fun y _ => h y

theorem Does.yi {d : Nat} {v : Value} (h : Yl P N ops S i (fun w => Inv w0 Z w A) d v) (hI : Inv w0 Z w A) (hk : K ((d, v) :: S) w) : Does P Q N ops i S w K := Does.yl h hI hk

/-! ### equality of arrays of numbers -/
/-! ### an array in a block, as a slice -/
/-! ### a part of a string -/
def sx (s : ByteArray) (a b : Int) : ByteArray := s.extract a.toNat b.toNat
def asSlice (N : FN) (ops : Array Oper) (S : Sl) (i : Nat) : Option (Nat × TypeId × Value × Option Value × Option Value) :=
  match sp N ops S i with
  | some o => match o.dst, o.op with
    | some d, .slice T x lo hi none => match ev S x with
      | some v => some (d, T, v, (lo.map (rho S)), (hi.map (rho S)))
      | none => none
    | _, _ => none
  | none => none
theorem asSlice_spec {d : Nat} {T : TypeId} {v : Value} {lo hi : Option Value} (h : asSlice N ops S i = some (d, T, v, lo, hi)) : ∃ o, sp N ops S i = some o ∧ o.dst = some d ∧ execOp (rho S) o = (do pure (Next.value (← Instr.sliceAt T v lo hi none)) : Sem Next) := by
  unfold asSlice at h
  split at h
  · rename_i o hs
    split at h
    · rename_i d' T' x lo' hi' e1 e2
      split at h
      · rename_i v' hv
        cases h
        refine ⟨o, hs, e1, ?_⟩
        have : rho S x = v := by simp [rho, hv]
        simp only [execOp, e2, this, Option.map_none]
      · cases h
    · cases h
  · cases h
theorem run_sliceStr {T : TypeId} {s : ByteArray} {lo hi : Option Value} {a b : Int} (ht : P.underlying T = some .string) (hlo : lo = some (.int .i64 a) ∨ lo = none ∧ a = 0) (hhi : hi = some (.int .i64 b) ∨ hi = none ∧ b = s.size) (h : 0 ≤ a ∧ a ≤ b ∧ b ≤ (s.size : Int)) :
    (Instr.sliceAt T (.string s) lo hi none).run P w = .ok (.string (sx s a b)) w := by
  obtain ⟨h0, h1, h2⟩ := h
  obtain ⟨a', rfl⟩ := Int.eq_ofNat_of_zero_le h0
  obtain ⟨b', rfl⟩ := Int.eq_ofNat_of_zero_le (Int.le_trans h0 h1)
  have e1 : a' ≤ b' := by omega
  have e2 : b' ≤ s.size := by omega
  rcases hlo with rfl | ⟨rfl, e3⟩ <;> rcases hhi with rfl | ⟨rfl, e4⟩ <;>
    simp_all [Instr.sliceAt, Instr.slice, run_underlying ht, Instr.sliceBounds, Instr.sliceBound, asIntOf, sx]
theorem Yl.sliceStr10 {d T : Nat} {s : ByteArray} {lo : Int} (h : asSlice N ops S i = some (d, T, .string s, some (.int .i64 lo), none)) (ht : P.underlying T = some .string) (hb : 0 ≤ lo ∧ lo ≤ (s.size : Int) ∧ (s.size : Int) ≤ (s.size : Int)) : Yl P N ops S i C d (.string (sx s lo (s.size : Int))) := by
  obtain ⟨o, hs, hd, he⟩ := asSlice_spec h
  exact ⟨o, hs, hd, fun w _ => by rw [he]; simp [run_sliceStr (P := P) (w := w) ht (.inl rfl) (.inr ⟨rfl, rfl⟩) hb]⟩
/-! ### stores into slices of the call's own; copy -/
end Go.Cen
