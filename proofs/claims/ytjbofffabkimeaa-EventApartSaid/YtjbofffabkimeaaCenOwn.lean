/- Parts of slices of the call's own: what lies behind an index cleared, a beginning kept. No program in sight. -/
import Derived.Test.YtjbofffabkimeaaCenArr
set_option linter.unusedVariables false
set_option linter.unusedSimpArgs false
namespace Go.Cen
variable {ρ : Option Nat} {P : Program} {Q : Exit → Act → World → Prop} {N : FN} {ops : Array Oper} {i : Nat} {S S' : Sl} {w w' w0 : World} {K : Sl → World → Prop} {Z Z' : Hp} {A B R : HP} {C : World → Prop}
variable {α : Type} {en : α → List Value} {sz c : Nat} {Ad : Option Addr} {ys : List α} {E : TypeId}
end Go.Cen
namespace Go.Cen
variable {P : Program} {Q : Exit → Act → World → Prop} {N : FN} {ops : Array Oper} {i : Nat} {S : Sl} {w w0 : World} {K : Sl → World → Prop} {Z : Hp} {A : HP}
theorem RdS.getC {α : Type} [Inhabited α] {en : α → List Value} {Z : Hp} {sz g o c n : Nat} {ys : List α} (h : RdS Z en sz (some ⟨g, o, none⟩) c ys) (hn : ys.length = n) {j : Int} (h0 : 0 ≤ j) (hj : j < (n : Int)) :
    (∀ (w0 w : World) (A : HP), Inv w0 Z w A → w.rangeAt g (o + j.toNat * sz) (en (gt ys j))) ∧ (en (gt ys j)).length = sz := by
  subst hn
  obtain ⟨g', o', e, a, b⟩ := RdS.get h h0 hj
  cases e
  exact ⟨a, b⟩
end Go.Cen
