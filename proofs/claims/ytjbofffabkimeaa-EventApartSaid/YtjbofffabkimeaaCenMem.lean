/- Loads, stores, new blocks, slices: each operation with what is owned before and behind it. No program in sight. -/
import Derived.Test.YtjbofffabkimeaaCenOp
import Derived.BigFrame
import Derived.Deep.MidRow
import Derived.Deep.AppendSrc
import Derived.Laws.IdiomCopy
set_option linter.unusedVariables false
set_option linter.unusedSimpArgs false
namespace Go.Cen
variable {P : Program} {Q : Exit → Act → World → Prop} {N : FN} {ops : Array Oper} {S S' : Sl} {a : Act} {w0 w w' : World} {K : Sl → World → Prop} {i : Nat} {Z Z' : Hp} {A B R : HP}

/-! ### types -/
structure Ty (P : Program) (T : TypeId) (row : Bool) (sz by_ : Nat) (z : Value) : Prop where
  info : (P.info? T).map (fun i => (i.size, i.bytes, i.zero)) = some (sz, by_, some z)
  und : (P.underlying T).map (fun d => match d with | .struct _ => true | .array _ _ => true | _ => false) = some row
theorem Ty.get {T : TypeId} {row : Bool} {sz by_ : Nat} {z : Value} (h : Ty P T row sz by_ z) : ∃ i, P.info? T = some i ∧ i.size = sz ∧ i.bytes = by_ ∧ i.zero = some z := by
  have := h.info
  cases e : P.info? T with
  | none => simp [e] at this
  | some i => simp [e] at this; exact ⟨i, rfl, this.1, this.2.1, this.2.2⟩
theorem Ty.size {T : TypeId} {row : Bool} {sz by_ : Nat} {z : Value} (h : Ty P T row sz by_ z) : (P.info? T).map (·.size) = some sz := by
  obtain ⟨i, e, h1, _⟩ := h.get
  simp [e, h1]
theorem Ty.row {T : TypeId} {row : Bool} {sz by_ : Nat} {z : Value} (h : Ty P T row sz by_ z) : ∃ d, P.underlying T = some d ∧ d.isRow = row := by
  have := h.und
  cases e : P.underlying T with
  | none => simp [e] at this
  | some d => simp [e] at this; exact ⟨d, rfl, by cases d <;> simpa [TypeDesc.isRow] using this⟩
theorem run_load1 {T : TypeId} {sz by_ : Nat} {z : Value} (h : Ty P T false sz by_ z) {ad : Addr} {v : Value} (hc : w.cell? ad = some v) : (loadVar T ad).run P w = .ok v w := by
  obtain ⟨d, hd, hr⟩ := h.row
  have : (isAgg T).run P w = .ok false w := by
    cases d <;> simp [TypeDesc.isRow] at hr <;> simp [isAgg, run_underlying hd]
  simp [loadVar, this, load, Sem.run, hc]
theorem run_loadN {T : TypeId} {sz by_ : Nat} {z : Value} (h : Ty P T true sz by_ z) {b o : Nat} {cs : List Value} (hl : cs.length = sz) (hc : w.rangeAt b o cs) : (loadVar T ⟨b, o, none⟩).run P w = .ok (.agg cs.toArray) w := by
  obtain ⟨d, hd, hr⟩ := h.row
  exact run_loadVar_mid w b o T cs d hc hd hr (by rw [h.size, hl])

/-! ### cells of a block -/
theorem cell_at {b o : Nat} {l : List Value} {T : TypeId} {fz : Nat × Nat} (h : w.heap[b]? = some (.cells l.toArray T fz)) : w.cell? ⟨b, o, none⟩ = l[o]? := by
  simp [World.cell?, h]
theorem range_at {b o : Nat} {l cs : List Value} {T : TypeId} {fz : Nat × Nat} (h : w.heap[b]? = some (.cells l.toArray T fz)) (hc : ∀ j v, cs[j]? = some v → l[o + j]? = some v) : w.rangeAt b o cs :=
  fun j v hv => by rw [cell_at h]; exact hc j v hv
def lset : List Value → Nat → List Value → List Value
  | l, _, [] => l
  | l, o, v :: r => lset (l.set o v) (o + 1) r
theorem lset_length : ∀ (vs l : List Value) (o : Nat), (lset l o vs).length = l.length
  | [], _, _ => rfl
  | v :: r, l, o => by simp [lset, lset_length r]
theorem lset_eq : ∀ (vs l : List Value) (o : Nat), o + vs.length ≤ l.length → lset l o vs = l.take o ++ vs ++ l.drop (o + vs.length)
  | [], l, o, _ => by simp [lset]
  | v :: r, l, o, h => by
    simp only [List.length_cons] at h
    rw [lset, lset_eq r _ _ (by simp; omega)]
    have hlt : o < l.length := by omega
    have e1 : (l.set o v).take (o + 1) = l.take o ++ [v] := by
      rw [List.take_succ_eq_append_getElem (by simpa using hlt)]
      simp [List.take_set_of_le]
    have e2 : (l.set o v).drop (o + 1 + r.length) = l.drop (o + 1 + r.length) := by
      rw [List.drop_set]; simp; omega
    rw [e1, e2]
    simp [Nat.add_comm, Nat.add_left_comm]
theorem lset_all (vs l : List Value) (h : vs.length = l.length) : lset l 0 vs = vs := by
  rw [lset_eq _ _ _ (by omega)]; simp [h]
theorem setCells_same (b : Nat) : ∀ (vs : List Value) (o : Nat) (w : World), (w.setCells b o vs).os = w.os ∧ (w.setCells b o vs).tape = w.tape ∧ (w.setCells b o vs).output = w.output ∧ ∀ k, k ≠ b → (w.setCells b o vs).heap[k]? = w.heap[k]?
  | [], _, _ => ⟨rfl, rfl, rfl, fun _ _ => rfl⟩
  | v :: r, o, w => by
    obtain ⟨h1, h2, h3, h4⟩ := setCells_same b r (o + 1) (w.setCell ⟨b, o, none⟩ v)
    refine ⟨h1, h2, h3, fun k hk => ?_⟩
    rw [World.setCells, h4 k hk]
    exact RowKit.Below.heap_setCell _ _ _ _ hk
theorem setCells_heap (b : Nat) {T : TypeId} {fz : Nat × Nat} : ∀ (vs : List Value) (o : Nat) (w : World) (l : List Value), w.heap[b]? = some (.cells l.toArray T fz) → (w.setCells b o vs).heap[b]? = some (.cells (lset l o vs).toArray T fz)
  | [], _, _, _, h => h
  | v :: r, o, w, l, h => by
    refine setCells_heap b r (o + 1) _ (l.set o v) ?_
    simp only [World.setCell, Array.getElem?_modify, if_true, h, Option.map_some, Option.isSome_none, Bool.false_eq_true, if_false]
    simp
/-- No cell of the block is frozen. -/
def frz (fz : Nat × Nat) (n : Nat) : Prop := n ≤ fz.1 ∨ fz.2 ≤ fz.1
theorem frozen_at {b o : Nat} {l : List Value} {T : TypeId} {fz : Nat × Nat} (h : w.heap[b]? = some (.cells l.toArray T fz)) (hz : frz fz l.length) (ho : o < l.length) : w.frozen? ⟨b, o, none⟩ = false := by
  simp only [World.frozen?, h]
  rcases hz with hz | hz
  · simp; omega
  · simp; omega
theorem run_storeVar' {T : TypeId} {row : Bool} {sz by_ : Nat} {z : Value} (h : Ty P T row sz by_ z) {b o : Nat} {v : Value} {l : List Value} {T' : TypeId} {fz : Nat × Nat} (hb : w.heap[b]? = some (.cells l.toArray T' fz)) (hz : frz fz l.length)
    (hl : v.cells.size = sz) (hfit : o + sz ≤ l.length) (h1 : v.cells.toList.all (·.oneCell') = true) : (storeVar T ⟨b, o, none⟩ v).run P w = .ok () (w.setCells b o v.cells.toList) := by
  obtain ⟨i, hi, h2, _⟩ := h.get
  have hs := run_storeCells_cells (P := P) b o v.cells.toList 0 w
    (fun j hj => by rw [cell_at hb]; simp at hj; simp; omega)
    (fun j hj => frozen_at hb hz (by simp at hj; omega))
    (fun x hx => List.all_eq_true.1 h1 x hx)
  simp only [Nat.add_zero] at hs
  have hne : ¬ v.cells.size ≠ i.size := by omega
  simp [storeVar, sizeOf, typeInfo, hi, hne, hs]

/-! ### what an operation asks, off the slots -/
def asLoad (N : FN) (ops : Array Oper) (S : Sl) (i : Nat) : Option (Nat × TypeId × Value) :=
  match sp N ops S i with
  | some o => match o.dst, o.op with
    | some d, .load T x => match ev S x with | some v => some (d, T, v) | none => none
    | _, _ => none
  | none => none
theorem asLoad_spec {d : Nat} {T : TypeId} {v : Value} (h : asLoad N ops S i = some (d, T, v)) : ∃ o, sp N ops S i = some o ∧ o.dst = some d ∧ ∀ P w, (execOp (rho S) o).run P w = ((do pure (Next.value (← Instr.loadAt T v)) : Sem Next)).run P w := by
  unfold asLoad at h
  split at h
  · rename_i o hs
    split at h
    · rename_i d' T' x e1 e2
      split at h
      · rename_i v' hv
        cases h
        refine ⟨o, hs, e1, fun P w => ?_⟩
        simp only [execOp, e2, rho, hv]
      · cases h
    · cases h
  · cases h
theorem load_run {d : Nat} {T : TypeId} {ad : Addr} {v : Value} (h : asLoad N ops S i = some (d, T, .pointer (some ad))) (hl : (loadVar T ad).run P w = .ok v w) :
    ∃ o, sp N ops S i = some o ∧ o.dst = some d ∧ (execOp (rho S) o).run P w = .ok (.value v) w := by
  obtain ⟨o, hs, hd, hr⟩ := asLoad_spec h
  refine ⟨o, hs, hd, ?_⟩
  rw [hr]
  simp [Instr.loadAt, Instr.sureAddr, hl]
theorem Does.load {d : Nat} {T : TypeId} {ad : Addr} {v : Value} (h : asLoad N ops S i = some (d, T, .pointer (some ad))) (hl : (loadVar T ad).run P w = .ok v w) (hk : K ((d, v) :: S) w) : Does P Q N ops i S w K := by
  obtain ⟨o, hs, hd, hr⟩ := load_run (P := P) h hl
  exact Does.yield hs hr (by rw [hd]; exact hk)
def asStore (N : FN) (ops : Array Oper) (S : Sl) (i : Nat) : Option (TypeId × Value × Value) :=
  match sp N ops S i with
  | some o => match o.dst, o.op with
    | none, .store T x y => match ev S x, ev S y with | some v, some u => some (T, v, u) | _, _ => none
    | _, _ => none
  | none => none
theorem Does.store {T : TypeId} {ad : Addr} {v : Value} (h : asStore N ops S i = some (T, .pointer (some ad), v)) (hl : (storeVar T ad v).run P w = .ok () w') (hk : K S w') : Does P Q N ops i S w K := by
  unfold asStore at h
  split at h
  · rename_i o hs
    split at h
    · rename_i T' x y e1 e2
      split at h
      · rename_i v' u' hv hu
        cases h
        refine Does.skip hs (w' := w') ?_ (by rw [e1]; exact hk)
        simp [execOp, e2, rho, hv, hu, Instr.storeAt, Instr.sureAddr, hl]
      · cases h
    · cases h
  · cases h
/-- A store into a block that is owned. -/
theorem Does.storeOwn {T : TypeId} {b o : Nat} {v : Value} {row : Bool} {sz by_ : Nat} {z : Value} {l : List Value} {T' : TypeId} {fz : Nat × Nat} (h : asStore N ops S i = some (T, .pointer (some ⟨b, o, none⟩), v)) (ht : Ty P T row sz by_ z)
    (hI : Inv w0 Z w (star (pt b (.cells l.toArray T' fz)) R)) (hz : frz fz l.length) (hl : v.cells.size = sz) (hfit : o + sz ≤ l.length) (h1 : v.cells.toList.all (·.oneCell') = true)
    (hk : ∀ w', Inv w0 Z w' (star (pt b (.cells (lset l o v.cells.toList).toArray T' fz)) R) → K S w') : Does P Q N ops i S w K := by
  have hb := hI.block
  refine Does.store h (run_storeVar' ht hb hz hl hfit h1) (hk _ ?_)
  obtain ⟨e1, e2, e3, e4⟩ := setCells_same b v.cells.toList o w
  exact hI.put (setCells_heap b v.cells.toList o w l hb) e4 e1 e2 e3
def asBox (N : FN) (ops : Array Oper) (S : Sl) (i : Nat) : Option (Nat × TypeId × Option Value) :=
  match sp N ops S i with
  | some o => match o.dst, o.op with
    | some d, .box T x => match ev S x with | some v => some (d, T, some v) | none => none
    | some d, .alloc T => some (d, T, none)
    | _, _ => none
  | none => none
/-- A new variable in memory. -/
theorem Does.box {d : Nat} {T : TypeId} {v : Value} (h : asBox N ops S i = some (d, T, some v)) (hI : Inv w0 Z w A)
    (hk : ∀ b w', Inv w0 Z w' (star (pt b (.cells v.cells T (0, 0))) A) → K ((d, .pointer (some ⟨b, 0, none⟩)) :: S) w') : Does P Q N ops i S w K := by
  unfold asBox at h
  split at h
  · rename_i o hs
    split at h
    · rename_i d' T' x e1 e2
      split at h
      · rename_i v' hv
        cases h
        refine Does.yield hs (v := .pointer (some ⟨w.heap.size, 0, none⟩)) (w' := { w with heap := w.heap.push (.cells v.cells T (0, 0)) }) ?_ (by rw [e1]; exact hk _ _ (hI.new _))
        simp [execOp, e2, rho, hv, Instr.box, newVar, newRow, newObj, Sem.run]
      · cases h
    · rename_i d' T' e1 e2
      cases h
    · cases h
  · cases h
theorem Does.alloc {d : Nat} {T : TypeId} {row : Bool} {sz by_ : Nat} {z : Value} (h : asBox N ops S i = some (d, T, none)) (ht : Ty P T row sz by_ z) (hI : Inv w0 Z w A)
    (hk : ∀ b w', Inv w0 Z w' (star (pt b (.cells z.cells T (0, 0))) A) → K ((d, .pointer (some ⟨b, 0, none⟩)) :: S) w') : Does P Q N ops i S w K := by
  obtain ⟨ti, h1, h2, h3, h4⟩ := ht.get
  unfold asBox at h
  split at h
  · rename_i o hs
    split at h
    · rename_i d' T' x e1 e2
      split at h <;> cases h
    · rename_i d' T' e1 e2
      cases h
      refine Does.yield hs (v := .pointer (some ⟨w.heap.size, 0, none⟩)) (w' := { w with heap := w.heap.push (.cells z.cells T (0, 0)) }) ?_ (by rw [e1]; exact hk _ _ (hI.new _))
      simp [execOp, e2, Instr.alloc, zeroValue, typeInfo, h1, h4, newVar, newRow, newObj, Sem.run]
    · cases h
  · cases h

/-! ### slices -/
/-- What a slice that nobody changes any more reads as: 'en' are an element's cells, sz of them. -/
def RdS {α : Type} (Z : Hp) (en : α → List Value) (sz : Nat) (A : Option Addr) (c : Nat) (ys : List α) : Prop :=
  ys.length ≤ c ∧ c ≤ maxLen ∧ (∀ y ∈ ys, (en y).length = sz) ∧
  (ys ≠ [] → ∃ g o l T fz, A = some ⟨g, o, none⟩ ∧ Z g = some (.cells l T fz) ∧ ∀ j u, (ys.flatMap en)[j]? = some u → l[o + j]? = some u)
variable {α : Type} {en : α → List Value} {sz : Nat} {Ad : Option Addr} {c : Nat} {ys zs : List α}
theorem RdS.mono (h : RdS Z en sz Ad c ys) (le : Z.le Z') : RdS Z' en sz Ad c ys :=
  ⟨h.1, h.2.1, h.2.2.1, fun hn => let ⟨g, o, l, T, fz, e, hz, hc⟩ := h.2.2.2 hn; ⟨g, o, l, T, fz, e, le _ _ hz, hc⟩⟩
theorem RdS.nil (Z : Hp) (en : α → List Value) (sz : Nat) (Ad : Option Addr) (c : Nat) (hc : c ≤ maxLen) : RdS Z en sz Ad c [] :=
  ⟨Nat.zero_le _, hc, fun _ h => (by cases h), fun h => absurd rfl h⟩
theorem flat_get : ∀ (ys : List α) (i : Nat) (hl : ∀ y ∈ ys, (en y).length = sz) (hi : i < ys.length) (j : Nat) (u : Value), (en ys[i])[j]? = some u → (ys.flatMap en)[i * sz + j]? = some u
  | y :: r, 0, hl, _, j, u, h => by
    simp only [List.getElem_cons_zero] at h
    have hlt : j < (en y).length := (List.getElem?_eq_some_iff.1 h).1
    simp only [List.flatMap_cons, Nat.zero_mul, Nat.zero_add]
    rw [List.getElem?_append_left hlt]; exact h
  | y :: r, i + 1, hl, hi, j, u, h => by
    have hy := hl y (by simp)
    have := flat_get r i (fun z hz => hl z (by simp [hz])) (by simpa using hi) j u (by simpa using h)
    simp only [List.flatMap_cons]
    rw [List.getElem?_append_right (by rw [hy, Nat.add_mul]; omega), hy, Nat.add_mul]
    rw [show i * sz + 1 * sz + j - sz = i * sz + j by omega]; exact this
theorem flat_length (ys : List α) (hl : ∀ y ∈ ys, (en y).length = sz) : (ys.flatMap en).length = ys.length * sz := by
  induction ys with
  | nil => simp
  | cons y r ih => simp [ih fun z hz => hl z (by simp [hz]), hl y (by simp), Nat.add_mul, Nat.add_comm]
/-- No cell is frozen; only bytes may be what a string was made of. -/
def frE {α : Type} (en : α → List Value) (fz : Nat × Nat) (n : Nat) : Prop := frz fz n ∧ (fz.2 ≤ fz.1 ∨ ∀ y, ∀ v ∈ en y, ∃ x, v = .int .u8 x)
theorem frE.zero {α : Type} (en : α → List Value) (n : Nat) : frE en (0, 0) n := ⟨.inr (Nat.le_refl _), .inl (Nat.le_refl _)⟩
/-- A slice of the call's own. -/
def ownS {α : Type} (E : TypeId) (en : α → List Value) (sz : Nat) (A : Option Addr) (c : Nat) (ys : List α) : HP := fun h =>
  (∀ y ∈ ys, (en y).length = sz) ∧ ys.length ≤ c ∧ c ≤ maxLen ∧
  ((A = none ∧ c = 0 ∧ h = Hp.emp) ∨ ∃ (g : Nat) (l : List Value) (fz : Nat × Nat), A = some ⟨g, 0, none⟩ ∧ h = Hp.one g (.cells l.toArray E fz) ∧ l.length = c * sz ∧ l.take (ys.length * sz) = ys.flatMap en ∧ frE en fz l.length)
variable {E : TypeId}
theorem ownS_nil (h : Inv w0 Z w A) (E : TypeId) (en : α → List Value) (sz : Nat) : Inv w0 Z w (star (ownS E en sz none 0 []) A) :=
  h.mono (ent_trans (star_emp A) (star_l fun x hx => ⟨fun _ h => (by cases h), Nat.le_refl _, Nat.zero_le _, .inl ⟨rfl, rfl, hx⟩⟩))
theorem ownS_facts (h : Inv w0 Z w (star (ownS E en sz Ad c ys) R)) : ys.length ≤ c ∧ c ≤ maxLen ∧ ∀ y ∈ ys, (en y).length = sz := by
  obtain ⟨_, ⟨x, y, hx, _⟩, _⟩ := h.mem
  exact ⟨hx.2.1, hx.2.2.1, hx.1⟩
theorem ownS_freeze (h : Inv w0 Z w (star (ownS E en sz Ad c ys) R)) : ∃ Z', Z.le Z' ∧ RdS Z' en sz Ad c ys ∧ Inv w0 Z' w R := by
  obtain ⟨x, Z', hx, h1, h2, h3⟩ := h.freeze
  refine ⟨Z', h1, ⟨hx.2.1, hx.2.2.1, hx.1, fun hn => ?_⟩, h3⟩
  rcases hx.2.2.2 with ⟨_, rfl, _⟩ | ⟨g, l, fz, rfl, rfl, h4, h5, _⟩
  · exact absurd (List.length_eq_zero_iff.1 (Nat.le_zero.1 hx.2.1)) hn
  · refine ⟨g, 0, l.toArray, E, fz, rfl, h2 _ _ (Hp.one_self _ _), fun j u hu => ?_⟩
    rw [← h5, List.getElem?_take] at hu
    split at hu
    · simpa using hu
    · cases hu
/-- An own slice, laid open: nil, or a block. -/
theorem ownS_open (h : Inv w0 Z w (star (ownS E en sz Ad c ys) R)) (hn : 0 < c) : ∃ (g : Nat) (l : List Value) (fz : Nat × Nat), Ad = some ⟨g, 0, none⟩ ∧ Inv w0 Z w (star (pt g (.cells l.toArray E fz)) R) ∧ l.length = c * sz ∧ l.take (ys.length * sz) = ys.flatMap en ∧ frE en fz l.length := by
  obtain ⟨_, ⟨x, y, hx, hr, d, rfl⟩, dz, m⟩ := h.mem
  rcases hx.2.2.2 with ⟨_, rfl, _⟩ | ⟨g, l, fz, rfl, rfl, h4, h5, h6⟩
  · omega
  · exact ⟨g, l, fz, rfl, ⟨h.os, h.tape, h.output, _, ⟨_, y, rfl, hr, d, rfl⟩, dz, m⟩, h4, h5, h6⟩
theorem ownS_shut {g : Nat} {l : List Value} {fz : Nat × Nat} (h : Inv w0 Z w (star (pt g (.cells l.toArray E fz)) R)) (hc : ys.length ≤ c) (hm : c ≤ maxLen) (hy : ∀ y ∈ ys, (en y).length = sz) (hl : l.length = c * sz) (ht : l.take (ys.length * sz) = ys.flatMap en) (hz : frE en fz l.length) :
    Inv w0 Z w (star (ownS E en sz (some ⟨g, 0, none⟩) c ys) R) :=
  h.mono (star_l fun x hx => ⟨hy, hc, hm, .inr ⟨g, l, fz, rfl, hx, hl, ht, hz⟩⟩)
/-- The cells of an own slice, as they lie. -/
theorem ownS_range (h : Inv w0 Z w (star (ownS E en sz Ad c ys) R)) (hn : ys ≠ []) : ∃ g, Ad = some ⟨g, 0, none⟩ ∧ w.rangeAt g 0 (ys.flatMap en) := by
  have hf := ownS_facts h
  have hc : 0 < c := by
    have : 0 < ys.length := by cases ys <;> simp at hn ⊢
    omega
  obtain ⟨g, l, fz, rfl, h1, h2, h3, h4⟩ := ownS_open h hc
  refine ⟨g, rfl, fun j v hv => ?_⟩
  rw [cell_at h1.block, Nat.zero_add]
  rw [← h3, List.getElem?_take] at hv
  split at hv
  · exact hv
  · cases hv
theorem RdS.range (h : RdS Z en sz Ad c ys) (hI : Inv w0 Z w A) (hn : ys ≠ []) : ∃ g o, Ad = some ⟨g, o, none⟩ ∧ w.rangeAt g o (ys.flatMap en) := by
  obtain ⟨g, o, l, T, fz, rfl, hz, hc⟩ := h.2.2.2 hn
  exact ⟨g, o, rfl, fun j v hv => by simp only [World.cell?, hI.zone hz]; simpa using hc j v hv⟩

/-! ### append -/
/-- What is appended: so many elements, of these cells, wherever they lie. -/
theorem src_of_range {P : Program} {tx e' : TypeId} (hk : P.underlying tx = some (.slice e')) {g o n c : Nat} {news : List Value} (hl : news.length = n * sz) (hr : w.rangeAt g o news) (h1 : ∀ u ∈ news, u.oneCell' = true) : Src P sz tx (.slice (some ⟨g, o, none⟩) n c) n news w :=
  Src.ofSlice w hk ⟨g, o, none⟩ n c news hl (fun j u hu => by rw [Addr.add_mid]; exact hr j u hu) h1
theorem src_nil {P : Program} {tx e' : TypeId} (hk : P.underlying tx = some (.slice e')) {Ad : Option Addr} {c : Nat} : Src P sz tx (.slice Ad 0 c) 0 [] w := by
  cases Ad with
  | none => exact Src.ofNil w hk c
  | some ad => exact Src.ofSlice w hk ad 0 c [] (by simp) (fun _ _ h => by cases h) (fun _ h => by cases h)
theorem zeroCells_size (z : Array Value) (n : Nat) : (Builtin.zeroCells z n).size = n * z.size := by simp [Builtin.zeroCells]
theorem run_append {t tx ty : TypeId} {by_ : Nat} {z : Value} (ht : P.underlying t = some (.slice E)) {row : Bool} (hT : Ty P E row sz by_ z) (hz : z.cells.size = sz) (hI : Inv w0 Z w (star (ownS E en sz Ad c ys) R))
    {x : Value} {zs : List α} (hs : Src P sz tx x zs.length (zs.flatMap en) w) (hzs : ∀ y ∈ zs, (en y).length = sz) (h47 : (ys.length + zs.length) * by_ ≤ 140737488355328) (h40 : ys.length + zs.length ≤ 1099511627776) :
    ∃ A' c' w', (Builtin.append_ #[t, tx] ty #[.slice Ad ys.length c, x]).run P w = .ok (.slice A' (ys ++ zs).length c') w' ∧ Inv w0 Z w' (star (ownS E en sz A' c' (ys ++ zs)) R) := by
  obtain ⟨ti, hi, e1, e2, e3⟩ := hT.get
  obtain ⟨f1, f2, f3⟩ := ownS_facts hI
  have hall : ∀ y ∈ ys ++ zs, (en y).length = sz := fun y hy => (List.mem_append.1 hy).elim (f3 y) (hzs y)
  have hlen := flat_length ys f3
  have hlz := flat_length zs hzs
  by_cases hroom : ys.length + zs.length ≤ c
  · rcases Nat.eq_zero_or_pos c with h0 | hc
    · subst h0
      have hy : ys = [] := List.length_eq_zero_iff.1 (by omega)
      have hzz : zs = [] := List.length_eq_zero_iff.1 (by omega)
      subst hy; subst hzz
      refine ⟨Ad, 0, w, ?_, by simpa using hI⟩
      have hk : ∃ d, P.underlying tx = some d ∧ (d matches .int _) = false := by
        rcases hs.kind with ⟨e', hk⟩ | hk <;> exact ⟨_, hk, rfl⟩
      cases Ad with
      | none => rcases hs.kind with ⟨e', hk⟩ | hk <;> simp [Builtin.append_, run_underlying ht, run_underlying hk, sizeOf, typeInfo, hi, hs.len, hs.cells, e1] <;> (have := hs.cells; simp at this; simp [this])
      | some ad => rcases hs.kind with ⟨e', hk⟩ | hk <;> (have := hs.cells; simp at this; simp [Builtin.append_, run_underlying ht, run_underlying hk, sizeOf, typeInfo, hi, hs.len, e1, this, storeCells])
    · obtain ⟨g, l, fz, rfl, h1, h2, h3, h4⟩ := ownS_open hI hc
      have hfit : ys.length * sz + (zs.flatMap en).length ≤ l.length := by rw [hlz, h2, ← Nat.add_mul]; exact Nat.mul_le_mul_right _ hroom
      have hr := run_append_room_src (P := P) w t tx ty E ti ht hi g 0 ys.length c x zs.length (zs.flatMap en) (by rw [e1]; exact hs) hroom
        (fun j hj => by rw [cell_at h1.block, e1]; simp; omega) (fun j hj => frozen_at h1.block h4.1 (by rw [e1]; omega))
      rw [e1, Nat.zero_add] at hr
      refine ⟨_, _, _, by simpa using hr, ?_⟩
      obtain ⟨s1, s2, s3, s4⟩ := setCells_same g (zs.flatMap en) (ys.length * sz) w
      refine ownS_shut (l := lset l (ys.length * sz) (zs.flatMap en)) (h1.put (setCells_heap g _ _ w l h1.block) s4 s1 s2 s3) (by simpa using hroom) f2 hall (by rw [lset_length, h2]) ?_ (by rw [lset_length]; exact h4)
      rw [lset_eq _ _ _ hfit, h3]
      have : (ys ++ zs).length * sz = (ys.flatMap en ++ zs.flatMap en).length := by simp only [List.length_append, hlen, hlz, Nat.add_mul]
      rw [this, List.take_left, List.flatMap_append]
  · have hold : (Builtin.firstCells ti.size ys.length (.slice Ad ys.length c)).run P w.drew = .ok (ys.flatMap en).toArray w.drew := by
      rw [e1]
      by_cases hy : ys = []
      · subst hy
        cases Ad with
        | none => simp [Builtin.firstCells]
        | some ad => exact run_firstCells_some w.drew sz 0 ad 0 c [] (by simp) (fun _ _ h => by cases h)
      · obtain ⟨g, rfl, hr⟩ := ownS_range hI hy
        exact run_firstCells_some w.drew sz ys.length ⟨g, 0, none⟩ ys.length c _ hlen (fun j v hv => by rw [Addr.add_mid]; simpa using hr j v hv)
    have hm : ys.length + zs.length ≤ maxLen := by simp only [maxLen]; omega
    have hr := run_append_grow_src (P := P) w t tx ty E ti z ht hi e3 Ad ys.length c (ys.flatMap en) hold x zs.length (zs.flatMap en) (by rw [e1]; exact hs) (by omega) (by omega) (growslice_fits (by omega) (by rw [e2]; exact h47))
    have hge := grownCap_ge w (ys.length + zs.length) c E
    have hcm := grownCap_le_maxLen w (ys.length + zs.length) c E hm
    refine ⟨_, _, _, by rw [List.length_append]; exact hr, ?_⟩
    have hI' : Inv w0 Z w.drew R := (hI.drop).same rfl rfl rfl rfl
    have eX : (ys.flatMap en ++ zs.flatMap en).toArray ++ Builtin.zeroCells z.cells (grownCap w (ys.length + zs.length) c E - (ys.length + zs.length)) = ((ys.flatMap en ++ zs.flatMap en) ++ (Builtin.zeroCells z.cells (grownCap w (ys.length + zs.length) c E - (ys.length + zs.length))).toList).toArray := by
      apply Array.toList_inj.1; simp
    rw [eX]
    have hn := hI'.new (.cells ((ys.flatMap en ++ zs.flatMap en) ++ (Builtin.zeroCells z.cells (grownCap w (ys.length + zs.length) c E - (ys.length + zs.length))).toList).toArray E (0, 0))
    refine ownS_shut (l := (ys.flatMap en ++ zs.flatMap en) ++ (Builtin.zeroCells z.cells (grownCap w (ys.length + zs.length) c E - (ys.length + zs.length))).toList) hn (by simpa using hge) hcm hall ?_ ?_ (frE.zero _ _)
    · simp only [List.length_append, Array.length_toList, zeroCells_size, hz, hlen, hlz, ← Nat.add_mul]
      congr 1; omega
    · have : (ys ++ zs).length * sz = (ys.flatMap en ++ zs.flatMap en).length := by simp only [List.length_append, hlen, hlz, Nat.add_mul]
      rw [this, List.take_left, List.flatMap_append]
def asBuiltin (N : FN) (ops : Array Oper) (S : Sl) (i : Nat) : Option (Nat × Builtin × List TypeId × TypeId × List Value) :=
  match sp N ops S i with
  | some o => match o.dst, o.op with
    | some d, .call cc => match cc.callee with
      | .builtin b => match evs S cc.args.toList with | some vs => some (d, b, cc.argTypes.toList, o.type, vs) | none => none
      | _ => none
    | _, _ => none
  | none => none
theorem evs_rho : ∀ {l : List Operand} {vs : List Value}, evs S l = some vs → l.map (rho S) = vs := by
  intro l
  induction l with
  | nil => intro vs e; simp only [evs, Option.some.injEq] at e; simpa using e
  | cons x r ih =>
    intro vs e
    simp only [evs] at e
    split at e
    · rename_i v l' h1 h2
      cases e
      simp [rho, h1, ih h2]
    · cases e
theorem builtin_run {d : Nat} {b : Builtin} {ats : List TypeId} {ty : TypeId} {vs : List Value} (h : asBuiltin N ops S i = some (d, b, ats, ty, vs)) :
    ∃ o cs, sp N ops S i = some o ∧ o.dst = some d ∧ execOp (rho S) o = builtin b ats.toArray ty cs vs.toArray := by
  unfold asBuiltin at h
  split at h
  · rename_i o hs
    split at h
    · rename_i d' cc e1 e2
      split at h
      · rename_i b' e3
        split at h
        · rename_i vs' e4
          cases h
          obtain ⟨callee, args, argTypes⟩ := cc
          simp only at e3 e4
          subst e3
          refine ⟨o, (args.map fun | .const _ => true | _ => false), hs, e1, ?_⟩
          have : args.map (rho S) = vs.toArray := by
            apply Array.toList_inj.1
            simpa using evs_rho e4
          obtain ⟨od, oop, oty, opos, oa, og⟩ := o
          simp only at e2
          subst e2
          rw [← this]
          rfl
        · cases h
      · cases h
    · cases h
  · cases h
theorem Does.append {d : Nat} {t tx ty : TypeId} {x : Value} {by_ : Nat} {z : Value} (h : asBuiltin N ops S i = some (d, .append, [t, tx], ty, [.slice Ad ys.length c, x])) (ht : P.underlying t = some (.slice E)) {row : Bool} (hT : Ty P E row sz by_ z) (hz : z.cells.size = sz)
    (hI : Inv w0 Z w (star (ownS E en sz Ad c ys) R)) {zs : List α} (hs : Src P sz tx x zs.length (zs.flatMap en) w) (hzs : ∀ y ∈ zs, (en y).length = sz) (h47 : (ys.length + zs.length) * by_ ≤ 140737488355328) (h40 : ys.length + zs.length ≤ 1099511627776)
    (hk : ∀ A' c' w', Inv w0 Z w' (star (ownS E en sz A' c' (ys ++ zs)) R) → K ((d, .slice A' (ys ++ zs).length c') :: S) w') : Does P Q N ops i S w K := by
  obtain ⟨o, cs, hs', hd, he⟩ := builtin_run h
  obtain ⟨A', c', w', hr, hI'⟩ := run_append (P := P) (ty := ty) ht hT hz hI hs hzs h47 h40
  refine Does.yield hs' (v := .slice A' (ys ++ zs).length c') (w' := w') ?_ (by rw [hd]; exact hk _ _ _ hI')
  rw [he]
  simp only [builtin, List.toArray]
  simp [hr]
end Go.Cen
