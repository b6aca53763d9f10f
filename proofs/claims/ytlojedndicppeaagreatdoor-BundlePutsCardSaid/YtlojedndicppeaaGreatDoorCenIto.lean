/- strconv.Itoa: the kit's contract, told of what a call owns. No program in sight. -/
import Derived.Test.YtlojedndicppeaaGreatDoorCenOwn
import Derived.Shelf.Strconv.Itoa3
set_option linter.unusedVariables false
set_option linter.unusedSimpArgs false
namespace Go.Cen
open Go.Shelf Go.Proofs Go.Sort
def itoaS (n : Int) : Option ByteArray := if -9223372036854775808 ≤ n ∧ n ≤ 9223372036854775807 then some ⟨(Lib.itoa n).toArray⟩ else none
/-- A table of numbers that fills its block. -/
def TabB (Z : Hp) (g : Nat) (k : IntKind) (zs : List Int) : Prop := ∃ T fz, Z g = some (.cells (zs.map fun z => Value.int k z).toArray T fz)
theorem TabB.mono {Z Z' : Hp} {g : Nat} {k : IntKind} {zs : List Int} (h : TabB Z g k zs) (le : Z.le Z') : TabB Z' g k zs := let ⟨T, fz, e⟩ := h; ⟨T, fz, le _ _ e⟩
variable {P : Program} {ρ : Ren} {w0 w : World} {Z : Hp} {A : HP}
theorem Inv.grown (h : Inv w0 Z w A) (k : Nat) (os : Array Obj) : Inv w0 Z (grow (w.drewN k) os) A := by
  obtain ⟨x, a, d, m⟩ := h.mem
  refine ⟨h.os, h.tape, h.output, x, a, d, fun b o e => ?_⟩
  have e1 := m b o e
  show (w.heap ++ os)[b]? = some o
  have hb : b < w.heap.size := (Array.getElem?_eq_some_iff.1 e1).1
  rw [Array.getElem?_append_left hb]; exact e1
theorem ito_call (L : LaysM.n243 P ρ) {g : Nat} (hg : P.globalNamed "internal/strconv.uint64pow10" = some g) {tab : List Int} (ht : tab = Lib.pow10Tab) (hT : TabB Z g .u64 tab) (a : Int) (hI : Inv w0 Z w A) (r : ByteArray) (h0 : itoaS a = some r) :
    Calls P (ρ.f 243) #[.int .i64 a] w (fun e w' => e = .returned (.string r) ∧ Inv w0 Z w' A) := by
  subst ht
  obtain ⟨⟨g0, g1⟩, h0⟩ := guardS h0
  have h0 := someS h0
  subst h0
  obtain ⟨T, fz, e⟩ := hT
  have hb := hI.zone e
  refine (Any.internal_strconv_Itoa L a g0 g1 w ?_).mono ?_
  · unfold Lib.TabIs
    simp only [World.var?, hg, Option.bind_some, hb]
  · rintro e w' ⟨rfl, k, os, rfl⟩
    exact ⟨rfl, hI.grown k os⟩
end Go.Cen
