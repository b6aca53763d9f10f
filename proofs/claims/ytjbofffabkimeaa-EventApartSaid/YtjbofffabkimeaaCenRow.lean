/- The law's arguments laid open as plain lists and numbers; the row's end. No program in sight. -/
import Derived.Test.YtjbofffabkimeaaCenLift3
import Derived.WalkKit
import Derived.ProofKit
import Derived.OpenShut
import Derived.Carry
import Derived.Deep.Slices
set_option linter.unusedVariables false
set_option linter.unusedSimpArgs false
namespace Go.Cen
open Go.ChangeShapes Go.WideShapes Go.ChangeAt Go.RowKit
variable {H : Type} {enc : TypeId × Value → H} {P : Program} {W W' : World}

/-- Cells of this type read as plain data. -/
def OpenT {α : Type} (enc : TypeId × Value → H) (P : Program) (W : World) (t : TypeId) (en : α → List Value) (ok : α → Prop) : Prop :=
  ∀ fuel cs x, DataW.trod enc P W 0 (fun _ => true) true fuel t cs = some x → ∃ u, cs = en u ∧ ok u
def okI (k : IntKind) (n : Int) : Prop := (Lit.int k n).wf = true
theorem OpenT.int {t : TypeId} {k : IntKind} (ht : P.underlying t = some (.int k)) : OpenT enc P W t (cI k) (okI k) := by
  intro fuel cs x h
  cases fuel with
  | zero => simp [DataW.trod] at h
  | succ m =>
    unfold DataW.trod at h
    rw [ht] at h
    rcases cs with _ | ⟨v, r⟩ <;> simp at h
    rcases r with _ | ⟨y, r⟩ <;> cases v <;> simp at h
    rename_i k' n
    obtain ⟨⟨rfl, h2⟩, _⟩ := h
    exact ⟨n, rfl, h2⟩
theorem OpenT.bool {t : TypeId} (ht : P.underlying t = some .bool) : OpenT enc P W t cB (fun _ => True) := by
  intro fuel cs x h
  cases fuel with
  | zero => simp [DataW.trod] at h
  | succ m =>
    unfold DataW.trod at h
    rw [ht] at h
    rcases cs with _ | ⟨v, r⟩ <;> simp at h
    rcases r with _ | ⟨y, r⟩ <;> cases v <;> simp at h
    rename_i b
    exact ⟨b, rfl, trivial⟩
theorem OpenT.str {t : TypeId} (ht : P.underlying t = some .string) : OpenT enc P W t cS (fun s => s.size ≤ maxLen) := by
  intro fuel cs x h
  cases fuel with
  | zero => simp [DataW.trod] at h
  | succ m =>
    unfold DataW.trod at h
    rw [ht] at h
    rcases cs with _ | ⟨v, r⟩ <;> simp at h
    rcases r with _ | ⟨y, r⟩ <;> cases v <;> simp at h
    rename_i s
    exact ⟨s, rfl, h.1⟩
/-- so many cells, one behind the other -/
theorem cells_of {α : Type} {e : α → Value} {ok : α → Prop} : ∀ (n : Nat) (cs : List Value), cs.length = n → (∀ i, i < n → ∃ u, (cs.drop i).take 1 = [e u] ∧ ok u) → ∃ us : List α, cs = cA e us ∧ us.length = n ∧ ∀ u ∈ us, ok u
  | 0, cs, hl, _ => ⟨[], by simp [cA]; exact List.length_eq_zero_iff.1 hl, rfl, fun _ h => by cases h⟩
  | n + 1, [], hl, _ => by simp at hl
  | n + 1, c :: r, hl, h => by
    obtain ⟨u, hu, ho⟩ := h 0 (Nat.zero_lt_succ _)
    obtain ⟨us, h1, h2, h3⟩ := cells_of n r (by simpa using hl) (fun i hi => by simpa using h (i + 1) (by omega))
    simp at hu
    subst hu h1
    exact ⟨u :: us, rfl, by simp [h2], by simp [ho]; exact h3⟩
theorem OpenT.arr {α : Type} {t e : TypeId} {n : Nat} {ev : α → Value} {ok : α → Prop} (ht : P.underlying t = some (.array n e)) (he : OpenT enc P W e (fun u => [ev u]) ok) (hc : P.cellsOf e = 1) (hn : P.cellsOf t = n) :
    OpenT enc P W t (cA ev) (fun xs => xs.length = n ∧ ∀ x ∈ xs, ok x) := by
  intro fuel cs x h
  obtain ⟨xs, m, rfl, _, hl, hx, hi⟩ := DataW.trod_array ht h
  rw [hn] at hl
  obtain ⟨us, h1, h2, h3⟩ := cells_of (e := ev) (ok := ok) n cs hl (fun i hlt => by
    have := hi i hlt
    rw [hc, Nat.mul_one, List.getElem?_eq_getElem (by omega)] at this
    exact he m _ _ this)
  exact ⟨us, h1, h2, h3⟩
/-- the fields of a struct -/
theorem OpenT.field {t : TypeId} {fs : Array Field} {fuel : Nat} {cs : List Value} {x : DataW H × List MemPlace} (ht : P.underlying t = some (.struct fs)) (h : DataW.trod enc P W 0 (fun _ => true) true fuel t cs = some x) :
    cs.length = P.cellsOf t ∧ ∀ {α : Type} {en : α → List Value} {ok : α → Prop} (i : Nat) (f : Field), fs[i]? = some f → OpenT enc P W f.type en ok → ∃ u, (cs.drop f.offset).take (P.cellsOf f.type) = en u ∧ ok u := by
  obtain ⟨xs, n, rfl, _, hl, hx, hi⟩ := DataW.trod_struct ht h
  refine ⟨hl, fun i f hf ho => ?_⟩
  have := hi i f hf
  have hlt : i < fs.size := (Array.getElem?_eq_some_iff.1 hf).1
  rw [List.getElem?_eq_getElem (by omega)] at this
  exact ho n _ _ this

theorem okI_u8 {x : Int} (h : okI .u8 x) : 0 ≤ x ∧ x < 256 := by
  simp [okI, Lit.wf, IntKind.min, IntKind.max, IntKind.signed, IntKind.bits] at h; omega
theorem isB_of {xs : List Int} (h : ∀ x ∈ xs, okI .u8 x) : ∀ x ∈ xs, 0 ≤ x ∧ x < 256 := fun x hx => okI_u8 (h x hx)

/-! ### arguments -/
theorem arg_row {α : Type} {t : TypeId} {en : α → List Value} {ok : α → Prop} {v : Value} {d : DataW H} {ps : List MemPlace} (ho : OpenT enc P W t en ok) (hv : ∃ cs, v = .agg cs) (h : DataW.Trod enc P W 0 (fun _ => true) true t v d ps) :
    ∃ u, v = .agg (en u).toArray ∧ ok u := by
  obtain ⟨cs, rfl⟩ := hv
  obtain ⟨fuel, hf⟩ := h
  obtain ⟨u, h1, h2⟩ := ho fuel _ _ hf
  refine ⟨u, ?_, h2⟩
  simp only [Value.cells] at h1
  rw [← h1]
theorem okWide_row {r : Reach} {b t : TypeId} {v : Value} (hd : (∃ fs, P.underlying t = some (.struct fs)) ∨ ∃ n e, P.underlying t = some (.array n e)) (h : Value.okWide P W r b t v) : ∃ cs, v = .agg cs := by
  unfold Value.okWide at h
  rcases hd with ⟨fs, e⟩ | ⟨n, e', e⟩ <;> rw [e] at h <;> obtain ⟨cs, rfl, _⟩ := h <;> exact ⟨cs, rfl⟩
theorem cells_read {sz : Nat} {α : Type} {en : α → List Value} {ok : α → Prop} {e : TypeId} (ho : OpenT enc P W e en ok) (hsz : P.cellsOf e = sz) (hp : 0 < sz) {a : Addr} : ∀ (n : Nat) (off : Nat),
    (∀ i, i < n → ∃ cs' f y, W.cells? 0 (a.add ((off + i) * sz)) sz = some cs' ∧ DataW.trod enc P W 0 (fun _ => true) true f e cs' = some y) →
    ∃ us : List α, us.length = n ∧ (∀ u ∈ us, (en u).length = sz ∧ ok u) ∧ ∀ j v, (us.flatMap en)[j]? = some v → W.cell? (a.add (off * sz + j)) = some v
  | 0, _, _ => ⟨[], rfl, (fun _ h => by cases h), (fun j v h => by simp at h)⟩
  | n + 1, off, h => by
    obtain ⟨cs', f, y, h1, h2⟩ := h 0 (Nat.zero_lt_succ _)
    obtain ⟨u, rfl, hu⟩ := ho _ _ _ h2
    obtain ⟨us, h3, h4, h5⟩ := cells_read ho hsz hp n (off + 1) (fun i hi => by
      obtain ⟨cs', f, y, k1, k2⟩ := h (i + 1) (by omega)
      exact ⟨cs', f, y, by rw [show off + 1 + i = off + (i + 1) by omega]; exact k1, k2⟩)
    obtain ⟨_, hl, hc⟩ := World.cells?_some h1
    refine ⟨u :: us, by simp [h3], ?_, ?_⟩
    · intro z hz
      rcases List.mem_cons.1 hz with rfl | hz
      · exact ⟨hl, hu⟩
      · exact h4 z hz
    · intro j v hj
      simp only [List.flatMap_cons] at hj
      rcases Nat.lt_or_ge j sz with hlt | hge
      · rw [List.getElem?_append_left (by omega)] at hj
        have := hc j hlt
        rw [Deep.add_add, Nat.add_zero, hj] at this
        exact this
      · rw [List.getElem?_append_right (by omega), hl] at hj
        have := h5 _ _ hj
        rw [show (off + 1) * sz + (j - sz) = off * sz + j by rw [Nat.add_mul]; omega] at this
        exact this
theorem arg_slice {α : Type} {t e : TypeId} {sz : Nat} {en : α → List Value} {ok : α → Prop} {v : Value} {d : DataW H} {ps : List MemPlace} (ht : P.underlying t = some (.slice e)) (ho : OpenT enc P W e en ok) (hsz : P.cellsOf e = sz) (hp : Nat.blt 0 sz = true) (hv : ∀ cs, v ≠ .agg cs) (h : DataW.Trod enc P W 0 (fun _ => true) true t v d ps) :
    ∃ (A : Option Addr) (c : Nat) (us : List α), v = .slice A us.length c ∧ RdS (heapOf W) en sz A c us ∧ ∀ u ∈ us, ok u := by
  have hp := Nat.le_of_ble_eq_true hp
  obtain ⟨fuel, hf⟩ := h
  rcases Deep.open_slice ht hf with ⟨h1, _⟩ | ⟨a, len, cap, m, n, D, Pl, h1, hb, hl, hm, hmm, _, hx⟩
  · have e1 : v = .slice none 0 0 := by
      cases v <;> simp [Value.cells] at h1 <;> first | (simp [h1]; done) | exact absurd rfl (hv _)
    subst e1
    exact ⟨none, 0, [], rfl, RdS.nil _ _ _ _ _ (Nat.zero_le _), fun _ h => by cases h⟩
  · have e1 : v = .slice (some a) len cap := by
      cases v <;> simp [Value.cells] at h1 <;> first | (simp [h1]; done) | exact absurd rfl (hv _)
    subst e1
    have hlm : len ≤ m := by rw [hmm]; split <;> omega
    obtain ⟨us, h2, h3, h4⟩ := cells_read ho hsz hp (a := a) len 0 (fun i hi => by
      obtain ⟨cs', k1, k2⟩ := hx i (by omega)
      rw [hsz] at k1
      exact ⟨cs', n, _, by simpa using k1, k2⟩)
    refine ⟨some a, cap, us, by rw [h2], ⟨by omega, hm, fun y hy => (h3 y hy).1, fun hn => ?_⟩, fun u hu => (h3 u hu).2⟩
    obtain ⟨u, r, rfl⟩ := List.exists_cons_of_ne_nil hn
    have hlen := (h3 u (by simp)).1
    obtain ⟨b, o, sp⟩ := a
    have h0 : ((u :: r).flatMap en)[0]? = some (en u)[0] := by
      simp only [List.flatMap_cons]
      rw [List.getElem?_append_left (by omega), List.getElem?_eq_getElem (by omega)]
    have c0 := h4 0 _ h0
    simp only [Nat.zero_mul, Nat.add_zero, Addr.add, if_true] at c0
    unfold World.cell? at c0
    simp only at c0
    split at c0
    · rename_i c T fz hcell
      split at c0
      · cases c0
      · rename_i hsp
        have hs : sp = none := by cases sp <;> simp_all
        subst hs
        refine ⟨b, o, c, T, fz, rfl, hcell, fun j w hj => ?_⟩
        have := h4 j w hj
        rw [Nat.zero_mul, Nat.zero_add, Addr.add_mid] at this
        simpa [World.cell?, hcell] using this
    · cases c0

/-- a slice, as it lies in a struct -/
structure SlT (α : Type) where
  A : Option Addr
  c : Nat
  us : List α
def enSl {α : Type} (x : SlT α) : List Value := [.slice x.A x.us.length x.c]
def okSl {α : Type} (W : World) (en : α → List Value) (sz : Nat) (ok : α → Prop) (x : SlT α) : Prop := RdS (heapOf W) en sz x.A x.c x.us ∧ ∀ u ∈ x.us, ok u
theorem OpenT.slice {α : Type} {t e : TypeId} {sz : Nat} {en : α → List Value} {ok : α → Prop} (ht : P.underlying t = some (.slice e)) (ho : OpenT enc P W e en ok) (hsz : P.cellsOf e = sz) (hp : Nat.blt 0 sz = true) :
    OpenT enc P W t enSl (okSl W en sz ok) := by
  intro fuel cs x h
  have hcell : ∃ v, cs = [v] ∧ ∀ c, v ≠ .agg c := by
    rcases Deep.open_slice ht h with ⟨h1, _⟩ | ⟨a, len, cap, m, n, D, Pl, h1, _⟩
    · exact ⟨_, h1, fun c e => by cases e⟩
    · exact ⟨_, h1, fun c e => by cases e⟩
  obtain ⟨v, rfl, hv⟩ := hcell
  have hc : v.cells.toList = [v] := by cases v <;> first | rfl | exact absurd rfl (hv _)
  obtain ⟨A, c, us, e1, h2, h3⟩ := arg_slice (v := v) (d := x.1) (ps := x.2) ht ho hsz hp hv ⟨fuel, by rw [hc]; exact h⟩
  exact ⟨⟨A, c, us⟩, by rw [e1]; rfl, h2, h3⟩
theorem split_end {cs : List Value} {off n : Nat} (hl : cs.length = n) (h : n ≤ off) : cs.drop off = [] := List.drop_eq_nil_iff.2 (by omega)
theorem split_more {cs e r : List Value} {off n off' : Nat} (h : (cs.drop off).take n = e) (h' : off' = off + n) (hr : cs.drop off' = r) : cs.drop off = e ++ r := by
  subst h'
  rw [← h, ← hr, ← List.drop_drop, List.take_append_drop]

/-! ### the row's end: a law that answers true, and leaves all that was there -/
def readB (P : Program) (ts : List TypeId) : Bool := ts.all fun t => P.readableRec t && decide (t < P.types.size)
theorem stay_all (hl : laidOutB P = true) (hb : Below W.heap.size W W') : ∀ {ts : List TypeId} {vs : List Value} {ds : List (DataW H)} {ps : List MemPlace}, readB P ts = true → DataW.TrodAll enc P W 0 (fun _ => true) true ts vs ds ps → (∀ x ∈ ps, x.block < W.heap.size) →
    DataW.TrodAll enc P W' 0 (fun b => decide (b < W.heap.size)) true ts vs ds ps
  | [], [], [], _, _, h, _ => h
  | [], _ :: _, _, _, _, h, _ => h.elim
  | [], [], _ :: _, _, _, h, _ => h.elim
  | _ :: _, [], _, _, _, h, _ => by simp [DataW.TrodAll] at h
  | _ :: _, _ :: _, [], _, _, h, _ => by simp [DataW.TrodAll] at h
  | t :: ts, v :: vs, d :: ds, ps, hr, h, hlt => by
    obtain ⟨p, q, h1, h2, rfl⟩ := h
    simp only [readB, List.all_cons, Bool.and_eq_true, decide_eq_true_eq] at hr
    exact ⟨p, q, Below.trod hl hr.1.1 hr.1.2 h1 hb (fun x hx => hlt x (by simp [hx])), stay_all hl hb hr.2 h2 (fun x hx => hlt x (by simp [hx])), rfl⟩
theorem post_law {f : Func} {s : ChangeSpec} {apart fresh handsOn : Bool} {args : Array Value} {ds gs : List (DataW H)} {before : List MemPlace} {tb : TypeId} (hl : laidOutB P = true) (hr : readB P f.params.toList = true) (hvars : s.vars = []) (htb : P.underlying tb = some .bool) (hres : f.resultTypes = #[tb])
    (hs : (s.fn H ds).results = [.lit (.bool true)]) (ha : (s.fn H ds).args = ds) (hv : (s.fn H ds).vars = [])
    (hW : DataW.Whole enc P f.params.toList s.vars apart W args.toList ds gs before) (hb : Below W.heap.size W W') :
    s.post enc P f apart fresh handsOn false W args (.bool true) W' := by
  have hlt : ∀ x ∈ before, x.block < W.heap.size := fun x hx => hW.lt x hx
  have hW' := hW
  obtain ⟨p, q, hA, hV, rfl, hfz, hnd⟩ := hW
  rw [hvars] at hV
  obtain ⟨rfl, rfl⟩ := trodVars_none hV
  rw [List.append_nil] at hW' hlt
  refine ⟨ds, [], p, [], p, [], hW', ?_, ?_, ?_, ?_, fun h => by cases h⟩
  · rw [List.append_nil, hs, hres]
    exact trodAll_cons_mk (shut_bool htb _) trodAll_mk0
  · rw [List.append_nil, ha]
    exact stay_all hl hb hr hA hlt
  · rw [List.append_nil, hv, hvars]; rfl
  · exact hb.frame _
end Go.Cen
