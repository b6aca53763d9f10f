/- Structs built of parts, some of which are arrays. No program in sight. -/
import Derived.Test.YtjbofffabkimeaaCenOwn
import Derived.Laws.Tables
set_option linter.unusedVariables false
set_option linter.unusedSimpArgs false
namespace Go.Cen
theorem fold_set : ∀ (vs L : List Value) (off n : Nat), ((vs.zipIdx n).foldl (fun (cs : Array Value) (x : Value × Nat) => cs.setIfInBounds (off + x.2) x.1) L.toArray) = (lset L (off + n) vs).toArray
  | [], L, off, n => rfl
  | v :: r, L, off, n => by
    simp only [List.zipIdx_cons, List.foldl_cons, lset]
    have := fold_set r (L.set (off + n) v) off (n + 1)
    rw [← Nat.add_assoc] at this
    rw [← this]
    simp
theorem fill_cons {places : List (Nat × Nat)} {L vs : List Value} {i off : Nat} {v : Value} {rest : List (Nat × Value)} (hp : places[i]? = some (off, vs.length)) (hv : v.cells = vs.toArray) (hle : off + vs.length ≤ L.length) :
    Instr.fill (places.toArray[·]?) L.toArray ((i, v) :: rest) = Instr.fill (places.toArray[·]?) (lset L off vs).toArray rest := by
  have h1 : places.toArray[i]? = some (off, vs.length) := by simpa using hp
  simp only [Instr.fill, h1, hv]
  rw [if_neg (by simp; omega)]
  have := fold_set vs L off 0
  rw [Nat.add_zero] at this
  rw [← this]
  congr 1
  simp
theorem lset_flat : ∀ (fs : List (List Value)) (i : Nat) (vs : List Value), (fs.map List.length)[i]? = some vs.length → lset fs.flatten ((fs.map List.length).take i).sum vs = (fs.set i vs).flatten
  | [], i, vs, h => by simp at h
  | f :: fs, 0, vs, h => by
    simp only [List.map_cons, List.getElem?_cons_zero, Option.some.injEq] at h
    simp only [List.take_zero, List.sum_nil, List.flatten_cons, List.set_cons_zero]
    rw [lset_eq _ _ _ (by rw [List.length_append]; omega)]
    have : 0 + vs.length = f.length := by omega
    rw [List.take_zero, List.nil_append, this, List.drop_left]
  | f :: fs, i + 1, vs, h => by
    simp only [List.map_cons, List.getElem?_cons_succ] at h
    have ih := lset_flat fs i vs h
    simp only [List.map_cons, List.take_succ_cons, List.sum_cons, List.flatten_cons, List.set_cons_succ]
    have hle : ((fs.map List.length).take i).sum + vs.length ≤ fs.flatten.length := by
      have hi : i < (fs.map List.length).length := (List.getElem?_eq_some_iff.1 h).1
      have e : ((fs.map List.length).take (i + 1)).sum = ((fs.map List.length).take i).sum + vs.length := by
        rw [List.take_succ_eq_append_getElem hi, List.sum_append]
        rw [List.getElem?_eq_getElem hi] at h
        simp [Option.some.inj h]
      have e2 : ((fs.map List.length).take (i + 1)).sum + ((fs.map List.length).drop (i + 1)).sum = fs.flatten.length := by
        rw [← List.sum_append, List.take_append_drop, List.length_flatten]
      omega
    rw [← ih, lset_eq _ _ _ (by rw [List.length_append]; omega), lset_eq _ _ _ hle]
    rw [List.take_append, List.take_of_length_le (by omega), Nat.add_sub_cancel_left, Nat.add_assoc, List.drop_append, List.drop_of_length_le (by omega), Nat.add_sub_cancel_left]
    simp
/-- all the parts, set one by one -/
theorem fill_all (places : List (Nat × Nat)) (lens : List Nat) : ∀ (ps : List (Nat × Value × List Value)) (fs : List (List Value)), fs.map List.length = lens →
    (∀ p ∈ ps, p.2.1.cells = p.2.2.toArray ∧ lens[p.1]? = some p.2.2.length ∧ places[p.1]? = some ((lens.take p.1).sum, p.2.2.length)) →
    Instr.fill (places.toArray[·]?) fs.flatten.toArray (ps.map fun p => (p.1, p.2.1)) = some (ps.foldl (fun (fs : List (List Value)) p => fs.set p.1 p.2.2) fs).flatten.toArray
  | [], fs, _, _ => rfl
  | p :: ps, fs, hl, h => by
    obtain ⟨h1, h2, h3⟩ := h p (by simp)
    have hle : (lens.take p.1).sum + p.2.2.length ≤ fs.flatten.length := by
      have hi : p.1 < lens.length := (List.getElem?_eq_some_iff.1 h2).1
      have e : (lens.take (p.1 + 1)).sum = (lens.take p.1).sum + p.2.2.length := by
        rw [List.take_succ_eq_append_getElem hi, List.sum_append]
        rw [List.getElem?_eq_getElem hi] at h2
        simp [Option.some.inj h2]
      have e2 : (lens.take (p.1 + 1)).sum + (lens.drop (p.1 + 1)).sum = fs.flatten.length := by
        rw [← List.sum_append, List.take_append_drop, List.length_flatten, hl]
      omega
    have hset : (fs.set p.1 p.2.2).map List.length = lens := by
      rw [List.map_set, hl]
      have hi : p.1 < lens.length := (List.getElem?_eq_some_iff.1 h2).1
      rw [List.getElem?_eq_getElem hi] at h2
      rw [← Option.some.inj h2]
      exact List.set_getElem_self hi
    rw [List.map_cons, fill_cons h3 h1 hle]
    have := lset_flat fs p.1 p.2.2 (by rw [hl]; exact h2)
    rw [hl] at this
    rw [this]
    exact fill_all places lens ps _ hset (fun q hq => h q (by simp [hq]))
variable {P : Program} {N : FN} {ops : Array Oper} {i : Nat} {S : Sl} {C : World → Prop}
theorem Yl.buildB {d : Nat} {T : TypeId} {ps : List (Nat × Value)} {cells : Array Value} (h : asBuild N ops S i = some (d, T, ps)) (hb : P.built T ps = some cells) : Yl P N ops S i C d (.agg cells) := by
  unfold asBuild at h
  split at h
  · rename_i o hs
    split at h
    · rename_i d' T' ps' e4 e5
      split at h
      · rename_i vs hv
        cases h
        have hr := evs_rho hv
        have hp : (ps'.map fun (i, x) => (i, rho S x)).toList = (ps'.toList.map (·.1)).zip vs := by
          rw [← hr]
          simp [List.map_map]
          induction ps'.toList with
          | nil => rfl
          | cons p r ih => simp [ih]
        refine ⟨o, hs, e4, fun w _ => ?_⟩
        simp only [execOp, e5, Sem.run_bind]
        rw [run_build w _ _ cells (by rw [hp]; exact hb)]
        rfl
      · cases h
    · cases h
  · cases h
/-- a struct with some parts told -/
theorem built_all {T : TypeId} {places : List (Nat × Nat)} {lens : List Nat} {zs : List (List Value)} (hP : ∀ ps, P.built T ps = Instr.fill (places.toArray[·]?) zs.flatten.toArray ps) (hz : zs.map List.length = lens) (ps : List (Nat × Value × List Value))
    (h : ∀ p ∈ ps, p.2.1.cells = p.2.2.toArray ∧ lens[p.1]? = some p.2.2.length ∧ places[p.1]? = some ((lens.take p.1).sum, p.2.2.length)) :
    P.built T (ps.map fun p => (p.1, p.2.1)) = some (ps.foldl (fun (fs : List (List Value)) p => fs.set p.1 p.2.2) zs).flatten.toArray := by
  rw [hP]
  exact fill_all places lens ps zs hz h
end Go.Cen
