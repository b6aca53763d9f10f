/- Equality of structs; arrays out of slices. No program in sight. -/
import Derived.Test.YthdoklobbcedcacDoorCenLift4
import Derived.Laws.StructEq
set_option linter.unusedVariables false
set_option linter.unusedSimpArgs false
namespace Go.Cen
variable {P : Program} {Q : Exit → Act → World → Prop} {N : FN} {ops : Array Oper} {i : Nat} {S S' : Sl} {w w' w0 : World} {K : Sl → World → Prop} {C : World → Prop}
/-- The fields of two structs, one behind the other: equal, as told. -/
inductive EqF (P : Program) (xs ys : Array Value) : List Field → Bool → Prop
  | nil : EqF P xs ys [] true
  | cons {f : Field} {fs : List Field} {u v : Value} {b r : Bool} (hn : (f.name != "_") = true) (hx : ∀ w, (part f.type xs f.offset).run P w = .ok u w) (hy : ∀ w, (part f.type ys f.offset).run P w = .ok v w)
      (he : ∀ w, (Op.equalIn 9999 f.type u v).run P w = .ok b w) (hr : EqF P xs ys fs r) : EqF P xs ys (f :: fs) (b && r)
theorem EqF.run {xs ys : Array Value} {fs : List Field} {r : Bool} (h : EqF P xs ys fs r) : (Op.eqFields 9999 xs ys fs).run P w = .ok r w := by
  induction h with
  | nil => simp [Op.eqFields]
  | cons hn hx hy he hr ih =>
    rename_i f fs u v b r
    have hn' : f.name ≠ "_" := by simpa using hn
    simp only [Op.eqFields, hn', ne_eq, not_false_eq_true, if_true, Sem.run_bind, hx, hy, he, Result.andThen_ok]
    cases b
    · simp
    · simpa using ih
/-! ### an array out of a slice -/
end Go.Cen
