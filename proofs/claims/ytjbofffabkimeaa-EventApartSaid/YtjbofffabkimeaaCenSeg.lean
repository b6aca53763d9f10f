/- Cells of a struct with arrays in it, part by part. No program in sight. -/
import Derived.Test.YtjbofffabkimeaaCenBd
import Derived.LoopNIn
set_option linter.unusedVariables false
set_option linter.unusedSimpArgs false
namespace Go.Cen
theorem segs_drop : ∀ (fs : List (List Value)) (i : Nat), fs.flatten.drop ((fs.map List.length).take i).sum = (fs.drop i).flatten
  | fs, 0 => by simp
  | [], i + 1 => by simp
  | f :: fs, i + 1 => by
    have := segs_drop fs i
    simp only [List.flatten_cons, List.map_cons, List.take_succ_cons, List.sum_cons, List.drop_succ_cons]
    rw [← this, List.drop_append, List.drop_of_length_le (by omega), Nat.add_sub_cancel_left, List.nil_append]
theorem segs_take : ∀ (fs : List (List Value)) (i : Nat), fs.flatten.take ((fs.map List.length).take i).sum = (fs.take i).flatten
  | fs, 0 => by simp
  | [], i + 1 => by simp
  | f :: fs, i + 1 => by
    have := segs_take fs i
    simp only [List.flatten_cons, List.map_cons, List.take_succ_cons, List.sum_cons]
    rw [← this, List.take_append, List.take_of_length_le (by omega), Nat.add_sub_cancel_left]
/-- some fields, one behind the other -/
theorem seg_take {L cs : List Value} (fs : List (List Value)) (i m : Nat) {o n : Nat} (hL : L = fs.flatten) (ho : ((fs.map List.length).take i).sum = o) (hn : (((fs.drop i).map List.length).take m).sum = n) (hc : ((fs.drop i).take m).flatten = cs) : (L.drop o).take n = cs := by
  subst hL; subst ho; subst hn
  rw [segs_drop, segs_take, hc]
theorem seg_get {L : List Value} {v : Value} (fs : List (List Value)) (i : Nat) {o : Nat} (hL : L = fs.flatten) (ho : ((fs.map List.length).take i).sum = o) (hv : fs[i]? = some [v]) : L[o]? = some v := by
  subst hL; subst ho
  have h := segs_drop fs i
  have hi : i < fs.length := (List.getElem?_eq_some_iff.1 hv).1
  have e : fs[i] = [v] := (List.getElem?_eq_some_iff.1 hv).2
  rw [List.drop_eq_getElem_cons hi, e] at h
  have h2 := congrArg (·[0]?) h
  simpa using h2
/-- an array that is an element of a slice, as a slice -/
theorem RdS.arr {Z : Hp} {k : IntKind} {n c g o : Nat} {Ad : Option Addr} {ys : List (List Int)} {j : Int} (h : RdS Z (cA (Value.int k)) n Ad c ys) (hA : Ad = some ⟨g, o, none⟩) (h0 : 0 ≤ j) (hj : j < ys.length) (hl : (gt ys j).length = n) (hn : n ≤ maxLen) : RdS Z (cI k) 1 (some ⟨g, o + j.toNat * n, none⟩) n (gt ys j) := by
  subst hA
  obtain ⟨hlt, e⟩ := gt_eq h0 hj
  refine ⟨by omega, hn, fun y _ => rfl, fun hne => ?_⟩
  obtain ⟨g', o', l, T, fz, e1, hz, hc⟩ := h.2.2.2 (fun e => by rw [e] at hlt; simp at hlt)
  simp only [Option.some.injEq, Addr.mk.injEq, and_true] at e1
  obtain ⟨rfl, rfl⟩ := e1
  refine ⟨g, o + j.toNat * n, l, T, fz, rfl, hz, fun i u hu => ?_⟩
  have hf : (gt ys j).flatMap (cI k) = cA (Value.int k) (gt ys j) := by
    exact flat_cI k _
  rw [hf] at hu
  have := hc (j.toNat * n + i) u (flat_get ys j.toNat h.2.2.1 hlt i u (by rw [← e]; exact hu))
  rw [← Nat.add_assoc] at this
  exact this
/-! ### a loop that goes round a told number of times -/
end Go.Cen
