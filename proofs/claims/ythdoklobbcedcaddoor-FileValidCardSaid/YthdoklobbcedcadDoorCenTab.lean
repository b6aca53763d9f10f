/- Tables that a row lists, as plain lists of what lies in memory. No program in sight. -/
import Derived.Test.YthdoklobbcedcadDoorCenOwn
import Derived.Lib.LaidU8
set_option linter.unusedVariables false
set_option linter.unusedSimpArgs false
namespace Go.Cen
open Go.Lib (VarReads tabData cells_of_tab ints_of_struct array_elem)
variable {P : Program} {W : World} {name : String} {g : Nat} {t e : TypeId} {k : IntKind}
theorem var_block {cs : Array Value} (hg : P.globalNamed name = some g) (h : W.var? P name = some cs) : ∃ T fz, heapOf W g = some (.cells cs T fz) := by
  simp only [World.var?, hg, Option.bind_some] at h
  unfold heapOf
  split at h
  · rename_i c T fz hh
    cases h
    exact ⟨T, fz, hh⟩
  · cases h
theorem flat_cI' (zs : List Int) : zs.flatMap (cI k) = zs.map fun z => Value.int k z := by
  induction zs with
  | nil => rfl
  | cons z r ih => rw [List.flatMap_cons, ih]; rfl
/-- a table of numbers -/
theorem tab_ints {zs : List Int} {n : Nat} (hg : P.globalNamed name = some g) (hty : (P.globals[g]?).map (·.type) = some t) (ht : P.underlying t = some (.array n e)) (he : P.underlying e = some (.int k)) (hce : P.cellsOf e = 1) (hct : P.cellsOf t = n)
    (h : VarReads P W name (tabData k zs)) (hl : zs.length = n) (hn : n ≤ maxLen) : RdS (heapOf W) (cI k) 1 (some ⟨g, 0, none⟩) n zs := by
  obtain ⟨g', t', cs, fuel, p, hg', hty', hvar, hd⟩ := h
  obtain rfl := Option.some.inj (hg.symm.trans hg')
  obtain rfl := Option.some.inj (hty.symm.trans hty')
  have hcs := cells_of_tab ht he hce hct hd
  obtain ⟨T, fz, hb⟩ := var_block hg hvar
  refine ⟨by omega, hn, fun _ _ => rfl, fun _ => ⟨g, 0, cs, T, fz, rfl, hb, fun j u hj => ?_⟩⟩
  rw [flat_cI', ← hcs] at hj
  rw [Nat.zero_add]
  simpa using hj
/-- a table of structs of numbers -/
theorem tab_structs {α : Type} {en : α → List Value} {xs : List α} {num : α → List Int} {n m : Nat} {fs : Array Field} (hen : ∀ x, en x = (num x).map fun z => Value.int k z) (hm : ∀ x, (num x).length = m) (hm0 : 0 < m)
    (hg : P.globalNamed name = some g) (hty : (P.globals[g]?).map (·.type) = some t) (ht : P.underlying t = some (.array n e)) (he : P.underlying e = some (.struct fs))
    (hf : ∀ (i : Nat) (f : Field), fs[i]? = some f → P.underlying f.type = some (.int k) ∧ f.offset = i ∧ P.cellsOf f.type = 1) (hfs : fs.size = m) (hce : P.cellsOf e = m) (hct : P.cellsOf t = n * m)
    (h : VarReads P W name (.agg (xs.map fun x => .agg ((num x).map fun z => .lit (.int k z))))) (hl : xs.length = n) (hn : n ≤ maxLen) : RdS (heapOf W) en m (some ⟨g, 0, none⟩) n xs := by
  obtain ⟨g', t', cs, fuel, p, hg', hty', hvar, hd⟩ := h
  obtain rfl := Option.some.inj (hg.symm.trans hg')
  obtain rfl := Option.some.inj (hty.symm.trans hty')
  obtain ⟨T, fz, hb⟩ := var_block hg hvar
  have hlen : ∀ y ∈ xs, (en y).length = m := fun y _ => by rw [hen, List.length_map, hm]
  refine ⟨by omega, hn, hlen, fun _ => ⟨g, 0, cs, T, fz, rfl, hb, fun j u hj => ?_⟩⟩
  rw [Nat.zero_add]
  have key : ∀ i, (hi : i < n) → (cs.toList.drop (i * m)).take m = en (xs[i]'(by omega)) := by
    intro i hi
    obtain ⟨f', d, q, h1, h2⟩ := array_elem ht hd i hi
    rw [hce] at h2
    rw [List.getElem?_map, List.getElem?_eq_getElem (by omega)] at h1
    simp only [Option.map_some, Option.some.injEq] at h1
    subst h1
    rw [hen]
    exact ints_of_struct he hf (by rw [hce, hfs]) h2
  have hjl : j < (xs.flatMap en).length := (List.getElem?_eq_some_iff.1 hj).1
  have hfl : ∀ ys : List α, (∀ y ∈ ys, (en y).length = m) → (ys.flatMap en).length = ys.length * m := by
    intro ys
    induction ys with
    | nil => intro _; simp
    | cons y r ih =>
      intro hy
      rw [List.flatMap_cons, List.length_append, ih (fun z hz => hy z (by simp [hz])), hy y (by simp), List.length_cons, Nat.add_mul]; omega
  rw [hfl xs hlen, hl] at hjl
  have hi : j / m < n := Nat.div_lt_of_lt_mul (by rw [Nat.mul_comm]; exact hjl)
  have hjm : j / m * m + j % m = j := by rw [Nat.mul_comm]; exact Nat.div_add_mod j m
  have hlt : j % m < m := Nat.mod_lt _ hm0
  have h3 := flat_get xs (j / m) hlen (by omega) (j % m)
  have h4 : (en (xs[j / m]'(by omega)))[j % m]? = some u := by
    have hlj : j % m < (en (xs[j / m]'(by omega))).length := by rw [hlen _ (List.getElem_mem _)]; exact hlt
    have h5 := h3 _ (List.getElem?_eq_getElem hlj)
    rw [hjm, hj] at h5
    rw [List.getElem?_eq_getElem hlj]
    exact h5.symm ▸ rfl
  rw [← key _ hi, List.getElem?_take_of_lt hlt, List.getElem?_drop, hjm] at h4
  simpa using h4
end Go.Cen
