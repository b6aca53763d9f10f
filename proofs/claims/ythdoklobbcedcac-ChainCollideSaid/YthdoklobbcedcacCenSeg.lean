/- Cells of a struct with arrays in it, part by part. No program in sight. -/
import Derived.Test.YthdoklobbcedcacCenArr
import Derived.Laws.Tables
import Derived.LoopNIn
set_option linter.unusedVariables false
set_option linter.unusedSimpArgs false
namespace Go.Cen
/-- an array that is an element of a slice, as a slice -/
theorem RdS.arr {Z : Hp} {k : IntKind} {n c g o : Nat} {Ad : Option Addr} {ys : List (List Int)} {j : Int} (h : RdS Z (cA (Value.int k)) n Ad c ys) (hA : Ad = some ⟨g, o, none⟩) (h0 : 0 ≤ j) (hj : j < ys.length) (hl : (gt ys j).length = n) (hn : n ≤ maxLen) : RdS Z (cI k) 1 (some ⟨g, o + j.toNat * n, none⟩) n (gt ys j) := by
  subst hA
  obtain ⟨hlt, e⟩ := gt_eq h0 hj
  refine ⟨by omega, hn, fun y _ => rfl, fun hne => ?_⟩
  obtain ⟨g', o', l, T, fz, e1, hz, hc⟩ := h.2.2.2 (fun e => by rw [e] at hlt; simp at hlt)
  simp only [Option.some.injEq, Addr.mk.injEq, and_true] at e1
  obtain ⟨rfl, rfl⟩ := e1
  refine ⟨g, o + j.toNat * n, l, T, fz, rfl, hz, fun i u hu => ?_⟩
  have hf : (gt ys j).flatMap (cI k) = cA (Value.int k) (gt ys j) := by
    exact flat_cI k _
  rw [hf] at hu
  have := hc (j.toNat * n + i) u (flat_get ys j.toNat h.2.2.1 hlt i u (by rw [← e]; exact hu))
  rw [← Nat.add_assoc] at this
  exact this
/-! ### a loop that goes round a told number of times -/
end Go.Cen
