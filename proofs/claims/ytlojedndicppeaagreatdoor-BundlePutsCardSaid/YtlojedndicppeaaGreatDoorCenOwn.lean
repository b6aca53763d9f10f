/- Parts of slices of the call's own: what lies behind an index cleared, a beginning kept. No program in sight. -/
import Derived.Test.YtlojedndicppeaaGreatDoorCenArr
set_option linter.unusedVariables false
set_option linter.unusedSimpArgs false
namespace Go.Cen
variable {ρ : Option Nat} {P : Program} {Q : Exit → Act → World → Prop} {N : FN} {ops : Array Oper} {i : Nat} {S S' : Sl} {w w' w0 : World} {K : Sl → World → Prop} {Z Z' : Hp} {A B R : HP} {C : World → Prop}
variable {α : Type} {en : α → List Value} {sz c : Nat} {Ad : Option Addr} {ys : List α} {E : TypeId}
end Go.Cen
namespace Go.Cen
variable {P : Program} {Q : Exit → Act → World → Prop} {N : FN} {ops : Array Oper} {i : Nat} {S : Sl} {w w0 : World} {K : Sl → World → Prop} {Z : Hp} {A : HP}
/-- A slice of nothing that is not nil. -/
theorem Does.buildSlice0 {α : Type} {en : α → List Value} {d : Nat} {T E : TypeId} {row : Bool} {sz by_ : Nat} {z : Value} (h : asBuildSlice N ops S i = some (d, T, 0, [])) (ht : P.underlying T = some (.slice E)) (hT : Ty P E row sz by_ z)
    (hI : Inv w0 Z w A) (hk : ∀ g w', Inv w0 Z w' (star (ownS E en sz (some ⟨g, 0, none⟩) 0 ([] : List α)) A) → K ((d, .slice (some ⟨g, 0, none⟩) ([] : List α).length 0) :: S) w') : Does P Q N ops i S w K := by
  obtain ⟨ti, hi, e1, e2, e3⟩ := hT.get
  unfold asBuildSlice at h
  split at h
  · rename_i o hs
    split at h
    · rename_i d' T' n' ps' e4 e5
      split at h
      · rename_i vs hv
        simp only [Option.some.injEq, Prod.mk.injEq] at h
        obtain ⟨rfl, rfl, rfl, h4⟩ := h
        have hp : ps' = #[] := by
          have h5 := congrArg List.length h4
          have h6 : vs.length = ps'.size := by rw [← evs_rho hv]; simp
          simp [h6] at h5
          exact h5
        subst hp
        refine Does.yield hs (v := .slice (some ⟨w.heap.size, 0, none⟩) 0 0) (w' := { w with heap := w.heap.push (.cells #[] E (0, 0)) }) ?_ ?_
        · simp only [execOp, e5, Instr.buildSlice, Sem.run_bind, run_underlying ht, Result.andThen_ok, sizeOf, typeInfo, run_program, hi, Sem.run_pure, Nat.zero_mul]
          have e0 : Array.map (fun x => (default : Value)) (Array.range 0) = #[] := by apply Array.ext' ; simp
          simp [Instr.fill, newRow, newObj, Sem.run]
          rw [e0]
        · rw [e4]
          refine hk _ _ ?_
          have hI' := hI.new (.cells ([] : List Value).toArray E (0, 0))
          exact ownS_shut hI' (Nat.le_refl _) (Nat.zero_le _) (fun _ h => by cases h) (by simp) (by simp) (frE.zero _ _)
      · cases h
    · cases h
  · cases h
end Go.Cen
