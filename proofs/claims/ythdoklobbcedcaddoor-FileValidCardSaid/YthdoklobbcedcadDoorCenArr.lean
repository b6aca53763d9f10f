/- Slices of rows that are written out. No program in sight. -/
import Derived.Test.YthdoklobbcedcadDoorCenBld
set_option linter.unusedVariables false
set_option linter.unusedSimpArgs false
namespace Go.Cen
variable {ρ : Option Nat} {P : Program} {Q : Exit → Act → World → Prop} {N : FN} {ops : Array Oper} {i : Nat} {S S' : Sl} {w w' w0 : World} {K : Sl → World → Prop} {Z Z' : Hp} {A B R : HP} {C : World → Prop}
end Go.Cen
namespace Go.Cen
variable {P : Program} {N : FN} {ops : Array Oper} {i : Nat} {S : Sl} {Z : Hp} {C : World → Prop}
theorem RdS.of_none {α : Type} {en : α → List Value} {sz c : Nat} {ys : List α} (h : RdS Z en sz none c ys) : ys = [] := by
  cases ys with
  | nil => rfl
  | cons y r =>
    obtain ⟨g, o, l, T, fz, e, _⟩ := h.2.2.2 (by simp)
    cases e
theorem Yl.eqlNilT {d : Nat} {T e : TypeId} {n c : Nat} (h : asBin N ops S i = some (d, .eql, T, .slice none n c, .slice none 0 0)) (ht : P.underlying T = some (.slice e)) (hg : P.eqGuardType P.depth T = false) : Yl P N ops S i C d (.bool true) := by
  obtain ⟨o, hs, hd, x', y', he⟩ := asBin_spec h
  refine ⟨o, hs, hd, fun w _ => ?_⟩
  rw [he]
  have : ∀ d : Nat, (Op.equalIn (d + 1) T (.slice none n c) (.slice none 0 0)).run P w = .ok true w := fun d => by simp [Op.equalIn, run_underlying ht]
  simp [eqGuard, run_program, hg, binOp, Op.equal, Op.maxDepth, this 9999]
theorem Yl.eqlNilF {d : Nat} {T e : TypeId} {n c : Nat} {ad : Addr} (h : asBin N ops S i = some (d, .eql, T, .slice (some ad) n c, .slice none 0 0)) (ht : P.underlying T = some (.slice e)) (hg : P.eqGuardType P.depth T = false) : Yl P N ops S i C d (.bool false) := by
  obtain ⟨o, hs, hd, x', y', he⟩ := asBin_spec h
  refine ⟨o, hs, hd, fun w _ => ?_⟩
  rw [he]
  have : ∀ d : Nat, (Op.equalIn (d + 1) T (.slice (some ad) n c) (.slice none 0 0)).run P w = .ok false w := fun d => by simp [Op.equalIn, run_underlying ht]
  simp [eqGuard, run_program, hg, binOp, Op.equal, Op.maxDepth, this 9999]
end Go.Cen
