/- Values built of parts that are rows. No program in sight. -/
import Derived.Test.YtjbofffabkimeaaCenLift5
set_option linter.unusedVariables false
set_option linter.unusedSimpArgs false
namespace Go.Cen
variable {P : Program} {Q : Exit → Act → World → Prop} {N : FN} {ops : Array Oper} {i : Nat} {S S' : Sl} {w w' w0 : World} {K : Sl → World → Prop} {C : World → Prop}
theorem foldl_lset (off : Nat) : ∀ (vs : List Value) (k : Nat) (L : List Value), ((vs.zipIdx k).foldl (fun cs (p : Value × Nat) => cs.setIfInBounds (off + p.2) p.1) L.toArray) = (lset L (off + k) vs).toArray
  | [], k, L => rfl
  | v :: r, k, L => by
    simp only [List.zipIdx_cons, List.foldl_cons, List.setIfInBounds_toArray, lset]
    rw [foldl_lset off r (k + 1) (L.set (off + k) v), Nat.add_assoc]
inductive Fill (place : Nat → Option (Nat × Nat)) : List Value → List (Nat × Value) → List Value → Prop
  | nil (L : List Value) : Fill place L [] L
  | cons {L L1 L' vs : List Value} {j off sz : Nat} {v : Value} {r : List (Nat × Value)} (hp : place j = some (off, sz)) (hv : v.cells.toList = vs) (hl : vs.length = sz) (hb : Nat.ble (off + sz) L.length = true) (hs : lset L off vs = L1) (hr : Fill place L1 r L') :
      Fill place L ((j, v) :: r) L'
theorem Fill.run {place : Nat → Option (Nat × Nat)} {L L' : List Value} {ps : List (Nat × Value)} (h : Fill place L ps L') : Instr.fill place L.toArray ps = some L'.toArray := by
  induction h with
  | nil L => rfl
  | cons hp hv hl hb hs hr ih =>
    rename_i L L1 L' vs j off sz v r
    have hb' := Nat.le_of_ble_eq_true hb
    have hsz : v.cells.size = sz := by rw [← hl, ← hv]; simp
    have e : v.cells.zipIdx.foldl (fun cs (p : Value × Nat) => cs.setIfInBounds (off + p.2) p.1) L.toArray = L1.toArray := by
      rw [← hs, ← Array.foldl_toList, Array.toList_zipIdx, hv]
      simpa using foldl_lset off vs 0 L
    have g : ¬ (off + sz > L.toArray.size) := by simp; omega
    simp only [Instr.fill, hp, hsz, ne_eq, not_true_eq_false, decide_false, Bool.false_or, decide_eq_true_eq, g, if_false]
    rw [e]
    simpa using ih
def asBuild (N : FN) (ops : Array Oper) (S : Sl) (i : Nat) : Option (Nat × TypeId × List (Nat × Value)) :=
  match sp N ops S i with
  | some o => match o.dst, o.op with
    | some d, .build T ps => match evs S (ps.toList.map (·.2)) with | some vs => some (d, T, (ps.toList.map (·.1)).zip vs) | none => none
    | _, _ => none
  | none => none
end Go.Cen
