/- A pointer field that is nil or points to its own block; unsafe pointers; bytes told as a string where they lie; appends of strings; parts of what is owned. No program in sight. -/
import Derived.Test.YthdoklobbcedcacCenRf
import Derived.Lib.Builder
import Derived.Lib.UnsafeStr
import Derived.Lib.AppendStr
set_option linter.unusedVariables false
set_option linter.unusedSimpArgs false
namespace Go.Cen
variable {ρ : Option Nat} {P : Program} {Q : Exit → Act → World → Prop} {N : FN} {ops : Array Oper} {i : Nat} {S S' : Sl} {w w' w0 : World} {K : Sl → World → Prop} {Z Z' : Hp} {A B R : HP} {C : World → Prop}
/-! ### more words -/
/-! ### bytes of the call's own, told as a string where they lie -/
/-! ### appends of strings -/
end Go.Cen
namespace Go.Cen
variable {ρ : Option Nat} {P : Program} {Q : Exit → Act → World → Prop} {N : FN} {ops : Array Oper} {S : Sl} {w w0 : World} {Z : Hp} {A : HP}
theorem CodT.drawC {id n : Nat} {B : HP} (ts : List Nat) (hm : P.follows .mixedOrders = true) (hn : ops.size = n) (hI : Inv w0 Z w A)
    (h : ∀ w, Inv w0 Z w A → GmT P ops (NoPanic Q) (fun w => Inv w0 Z w B) ts N n (lst n []) S w) : CodT ρ P (.region id ops true) Q N S w :=
  CodT.drawL _ ts hm hn (h _ (hI.drawn _))
end Go.Cen
