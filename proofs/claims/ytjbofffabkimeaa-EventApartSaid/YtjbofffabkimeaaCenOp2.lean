/- Reads (which may be taken in any order), calls, and the ends of functions. No program in sight. -/
import Derived.Test.YtjbofffabkimeaaCenMem
set_option linter.unusedVariables false
set_option linter.unusedSimpArgs false
namespace Go.Cen
variable {ρ : Option Nat} {P : Program} {Q : Exit → Act → World → Prop} {N : FN} {ops : Array Oper} {S S' : Sl} {a : Act} {w0 w w' : World} {K : Sl → World → Prop} {i : Nat} {Z Z' : Hp} {A B R : HP} {C : World → Prop}

/-- Wherever C holds, number i yields v. -/
def Yl (P : Program) (N : FN) (ops : Array Oper) (S : Sl) (i : Nat) (C : World → Prop) (d : Nat) (v : Value) : Prop :=
  ∃ o, sp N ops S i = some o ∧ o.dst = some d ∧ ∀ w, C w → (execOp (rho S) o).run P w = .ok (.value v) w
theorem Does.yl {d : Nat} {v : Value} (h : Yl P N ops S i C d v) (hC : C w) (hk : K ((d, v) :: S) w) : Does P Q N ops i S w K := by
  obtain ⟨o, hs, hd, hr⟩ := h
  exact Does.yield hs (hr w hC) (by rw [hd]; exact hk)
theorem GmT.yl {ts : List Nat} {f : Nat} {listed listed' : Array Bool} {d : Nat} {v : Value} (f0 : Nat) (hf : freeB ops listed i = true) (hl : listed.setIfInBounds i true = listed') (hts : (ts.all fun t => reach ops f0 t i) = true)
    (h : Yl P N ops S i C d v) (hC : C w) (hk : GmT P ops (NoPanic Q) C ts N f listed' ((d, v) :: S) w) : GmT P ops (NoPanic Q) C ts N (f + 1) listed S w := by
  obtain ⟨o, hs, hd, hr⟩ := h
  exact GmT.read f0 hf hl hts hs hr hC (by rw [hd]; exact hk)

/-! ### loads -/
theorem Yl.load {d : Nat} {T : TypeId} {ad : Addr} {v : Value} (h : asLoad N ops S i = some (d, T, .pointer (some ad))) (hl : ∀ w, C w → (loadVar T ad).run P w = .ok v w) : Yl P N ops S i C d v := by
  obtain ⟨o, hs, hd, hr⟩ := asLoad_spec h
  refine ⟨o, hs, hd, fun w hC => ?_⟩
  rw [hr]
  simp [Instr.loadAt, Instr.sureAddr, hl w hC]
theorem ldB {T : TypeId} {sz by_ : Nat} {z : Value} (h : Ty P T false sz by_ z) {b o : Nat} {l : List Value} {T' : TypeId} {fz : Nat × Nat} {v : Value} (he : ent A (star (pt b (.cells l.toArray T' fz)) R)) (hv : l[o]? = some v) :
    ∀ w, Inv w0 Z w A → (loadVar T ⟨b, o, none⟩).run P w = .ok v w := fun w hI => run_load1 h (by rw [cell_at (hI.mono he).block, hv])
theorem ldBN {T : TypeId} {sz by_ : Nat} {z : Value} (h : Ty P T true sz by_ z) {b o : Nat} {l cs : List Value} {T' : TypeId} {fz : Nat × Nat} (he : ent A (star (pt b (.cells l.toArray T' fz)) R)) (hl : cs.length = sz) (hc : (l.drop o).take sz = cs) :
    ∀ w, Inv w0 Z w A → (loadVar T ⟨b, o, none⟩).run P w = .ok (.agg cs.toArray) w := fun w hI => run_loadN h hl (range_at (hI.mono he).block fun j v hv => by
      rw [← hc, List.getElem?_take] at hv; split at hv
      · simpa using hv
      · cases hv)
theorem whole (l : List Value) (n : Nat) (h : l.length = n) : (l.drop 0).take n = l := by subst h; simp
/-- One cell of a range. -/
theorem ldR {T : TypeId} {sz by_ : Nat} {z : Value} (h : Ty P T false sz by_ z) {b o : Nat} {cs : List Value} {v : Value} (k : Nat) (he : ∀ w, C w → w.rangeAt b o cs) (hv : cs[k]? = some v) :
    ∀ w, C w → (loadVar T ⟨b, o + k, none⟩).run P w = .ok v w := fun w hI => run_load1 h (he w hI k v hv)
theorem ldRN {T : TypeId} {sz by_ : Nat} {z : Value} (h : Ty P T true sz by_ z) {b o : Nat} {l cs : List Value} (k : Nat) (he : ∀ w, C w → w.rangeAt b o l) (hl : cs.length = sz) (hc : (l.drop k).take sz = cs) :
    ∀ w, C w → (loadVar T ⟨b, o + k, none⟩).run P w = .ok (.agg cs.toArray) w := fun w hI => run_loadN h hl fun j v hv => by
      rw [← hc, List.getElem?_take] at hv; split at hv
      · rw [Nat.add_assoc]; exact he w hI (k + j) v (by simpa using hv)
      · cases hv

/-! ### elements of slices -/
def gt {α : Type} [Inhabited α] (ys : List α) (j : Int) : α := ys.getD j.toNat default
variable {α : Type} [Inhabited α] {en : α → List Value} {sz c : Nat} {Ad : Option Addr} {ys : List α} {E : TypeId}
theorem gt_eq {j : Int} (h0 : 0 ≤ j) (hj : j < ys.length) : ∃ h : j.toNat < ys.length, gt ys j = ys[j.toNat] :=
  ⟨by omega, by unfold gt; rw [List.getD_eq_getElem?_getD, List.getElem?_eq_getElem (by omega)]; rfl⟩
theorem RdS.get (h : RdS Z en sz Ad c ys) {j : Int} (h0 : 0 ≤ j) (hj : j < ys.length) :
    ∃ g o, Ad = some ⟨g, o, none⟩ ∧ (∀ (w0 w : World) (A : HP), Inv w0 Z w A → w.rangeAt g (o + j.toNat * sz) (en (gt ys j))) ∧ (en (gt ys j)).length = sz := by
  obtain ⟨hlt, e⟩ := gt_eq h0 hj
  obtain ⟨g, o, l, T, fz, rfl, hz, hc⟩ := h.2.2.2 (fun e => by rw [e] at hlt; simp at hlt)
  refine ⟨g, o, rfl, fun w0 w A hI k v hv => ?_, by rw [e]; exact h.2.2.1 _ (List.getElem_mem _)⟩
  have hb := hI.zone hz
  simp only [World.cell?, hb]
  have := hc (j.toNat * sz + k) v (flat_get ys j.toNat h.2.2.1 hlt k v (by rw [← e]; exact hv))
  simpa [Nat.add_assoc] using this
theorem ownS_get (hI : Inv w0 Z w (star (ownS E en sz Ad c ys) R)) {j : Int} (h0 : 0 ≤ j) (hj : j < ys.length) :
    ∃ g, Ad = some ⟨g, 0, none⟩ ∧ (∀ (w0 w : World) (R : HP), Inv w0 Z w (star (ownS E en sz Ad c ys) R) → w.rangeAt g (0 + j.toNat * sz) (en (gt ys j))) ∧ (en (gt ys j)).length = sz := by
  obtain ⟨hlt, e⟩ := gt_eq h0 hj
  have hf := ownS_facts hI
  have hn : ys ≠ [] := fun e => by rw [e] at hlt; simp at hlt
  obtain ⟨g, rfl, _⟩ := ownS_range hI hn
  refine ⟨g, rfl, fun w0 w R hI k v hv => ?_, by rw [e]; exact hf.2.2 _ (List.getElem_mem _)⟩
  obtain ⟨g', e', hr⟩ := ownS_range hI hn
  cases e'
  have := hr (j.toNat * sz + k) v (flat_get ys j.toNat hf.2.2 hlt k v (by rw [← e]; exact hv))
  simpa [Nat.add_assoc] using this
def asIndexAddr (N : FN) (ops : Array Oper) (S : Sl) (i : Nat) : Option (Nat × TypeId × Value × Value) :=
  match sp N ops S i with
  | some o => match o.dst, o.op with
    | some d, .indexAddr T x y => match ev S x, ev S y with | some v, some u => some (d, T, v, u) | _, _ => none
    | _, _ => none
  | none => none
theorem asIndexAddr_spec {d : Nat} {T : TypeId} {v u : Value} (h : asIndexAddr N ops S i = some (d, T, v, u)) : ∃ o, sp N ops S i = some o ∧ o.dst = some d ∧ execOp (rho S) o = (do pure (Next.value (← Instr.indexAt T v u)) : Sem Next) := by
  unfold asIndexAddr at h
  split at h
  · rename_i o hs
    split at h
    · rename_i d' T' x y e1 e2
      split at h
      · rename_i v' u' hv hu
        cases h
        refine ⟨o, hs, e1, ?_⟩
        simp only [execOp, e2, rho, hv, hu]
      · cases h
    · cases h
  · cases h
theorem Yl.indexSlice {d T n cc : Nat} {k : IntKind} {j : Int} {g o : Nat} {by_ : Nat} {z : Value} {row : Bool} (h : asIndexAddr N ops S i = some (d, T, .slice Ad n cc, .int k j)) (ht : P.underlying T = some (.slice E)) (hT : Ty P E row sz by_ z)
    (hA : Ad = some ⟨g, o, none⟩) (h0 : 0 ≤ j) (hj : j < n) : Yl P N ops S i C d (.pointer (some ⟨g, o + j.toNat * sz, none⟩)) := by
  obtain ⟨op, hs, hd, he⟩ := asIndexAddr_spec h
  obtain ⟨ti, hi, e1, _⟩ := hT.get
  subst hA
  refine ⟨op, hs, hd, fun w _ => ?_⟩
  rw [he]
  simp [Instr.indexAt, asIntOf, run_underlying ht, h0, hj, sizeOf, typeInfo, hi, e1, Addr.add_mid]
theorem Yl.indexArr {d T n : Nat} {k : IntKind} {j : Int} {g o : Nat} {by_ : Nat} {z : Value} {row : Bool} (h : asIndexAddr N ops S i = some (d, T, .pointer (some ⟨g, o, none⟩), .int k j)) (ht : P.underlying T = some (.array n E)) (hT : Ty P E row sz by_ z)
    (h0 : 0 ≤ j) (hj : j < n) : Yl P N ops S i C d (.pointer (some ⟨g, o + j.toNat * sz, none⟩)) := by
  obtain ⟨op, hs, hd, he⟩ := asIndexAddr_spec h
  obtain ⟨ti, hi, e1, _⟩ := hT.get
  refine ⟨op, hs, hd, fun w _ => ?_⟩
  rw [he]
  simp [Instr.indexAt, asIntOf, run_underlying ht, h0, hj, sizeOf, typeInfo, hi, e1, Addr.add_mid, Instr.sureAddr]

/-! ### index -/
def bt (s : ByteArray) (j : Int) : Int := (s.data.toList.getD j.toNat 0).toNat
def asIndex (N : FN) (ops : Array Oper) (S : Sl) (i : Nat) : Option (Nat × TypeId × Value × Value) :=
  match sp N ops S i with
  | some o => match o.dst, o.op with
    | some d, .index T x y => match ev S x, ev S y with | some v, some u => some (d, T, v, u) | _, _ => none
    | _, _ => none
  | none => none
theorem asIndex_spec {d : Nat} {T : TypeId} {v u : Value} (h : asIndex N ops S i = some (d, T, v, u)) : ∃ o, sp N ops S i = some o ∧ o.dst = some d ∧ execOp (rho S) o = (do pure (Next.value (← Instr.index T v u)) : Sem Next) := by
  unfold asIndex at h
  split at h
  · rename_i o hs
    split at h
    · rename_i d' T' x y e1 e2
      split at h
      · rename_i v' u' hv hu
        cases h
        refine ⟨o, hs, e1, ?_⟩
        simp only [execOp, e2, rho, hv, hu]
      · cases h
    · cases h
  · cases h
theorem Yl.indexStr {d T : Nat} {k : IntKind} {j : Int} {s : ByteArray} (h : asIndex N ops S i = some (d, T, .string s, .int k j)) (ht : P.underlying T = some .string) (h0 : 0 ≤ j) (hj : j < s.size) : Yl P N ops S i C d (.int .u8 (bt s j)) := by
  obtain ⟨op, hs, hd, he⟩ := asIndex_spec h
  refine ⟨op, hs, hd, fun w _ => ?_⟩
  rw [he]
  have hlt : j.toNat < s.size := by omega
  have e : s[j.toNat]? = some (s[j.toNat]) := getElem?_pos s j.toNat hlt
  have e2 : (s[j.toNat].toNat : Int) = bt s j := by
    unfold bt
    have : s.data.toList.getD j.toNat 0 = s[j.toNat] := by
      rw [List.getD_eq_getElem?_getD, List.getElem?_eq_getElem (by simpa using hlt)]
      rfl
    rw [this]
  simp [Instr.index, asIntOf, run_underlying ht, h0, e, e2]
theorem Yl.indexAgg {d T n : Nat} {k : IntKind} {j : Int} {l : List Value} {by_ : Nat} {z v : Value} (h : asIndex N ops S i = some (d, T, .agg l.toArray, .int k j)) (ht : P.underlying T = some (.array n E)) (hT : Ty P E false 1 by_ z)
    (h0 : 0 ≤ j) (hj : j < n) (hv : l[j.toNat]? = some v) : Yl P N ops S i C d v := by
  obtain ⟨op, hs, hd, he⟩ := asIndex_spec h
  obtain ⟨ti, hi, e1, _⟩ := hT.get
  obtain ⟨dd, hdd, hr⟩ := hT.row
  refine ⟨op, hs, hd, fun w _ => ?_⟩
  rw [he]
  have : (isAgg E).run P w = .ok false w := by
    cases dd <;> simp [TypeDesc.isRow] at hr <;> simp [isAgg, run_underlying hdd]
  simp [Instr.index, asIntOf, run_underlying ht, h0, hj, sizeOf, typeInfo, hi, e1, part, this, hv]

/-! ### a call -/
def asCall (N : FN) (ops : Array Oper) (S : Sl) (i : Nat) : Option (Option Nat × FuncId × List Value) :=
  match sp N ops S i with
  | some o => match o.op with
    | .call cc => match cc.callee with
      | .value f => match ev S f, evs S cc.args.toList with | some (.func (.func n) fs cp), some vs => some (o.dst, n, fs.toList ++ vs ++ cp.toList) | _, _ => none
      | _ => none
    | _ => none
  | none => none
theorem Does.call {d : Option Nat} {n : FuncId} {vs : List Value} {R : Ending → World → Prop} (h : asCall N ops S i = some (d, n, vs)) (hn : ∀ args w, (callFunc n args).run P w = .ok (.enter n args) w) (hc : Calls P n vs.toArray w R)
    (hk : ∀ e w', R e w' → ∃ v, e = .returned v ∧ K (putS S d v) w') : Does P Q N ops i S w K := by
  unfold asCall at h
  split at h
  · rename_i o hs
    split at h
    · rename_i cc e2
      split at h
      · rename_i f e3
        split at h
        · rename_i n' fs cp vs' h1 h2
          cases h
          refine Does.enter hs (n := n) (vs := (fs.toList ++ vs' ++ cp.toList).toArray) (R := R) ?_ hc hk
          obtain ⟨callee, args, argTypes⟩ := cc
          simp only at e3 h2
          subst e3
          have : args.map (rho S) = vs'.toArray := by
            apply Array.toList_inj.1
            simpa using evs_rho h2
          have hf : rho S f = .func (.func n) fs cp := by simp [rho, h1]
          simp only [execOp, e2, resolve, hf, this, Deferred.ofValue, Sem.run_bind, Sem.run_pure, Result.andThen_ok, invoke, hn]
          congr 2
          apply Array.toList_inj.1
          simp
        · cases h
      · cases h
    · cases h
  · cases h

/-! ### results -/
inductive RunRes (P : Program) (N : FN) (S : Sl) (w : World) : List ResultVar → List Value → Prop
  | nil : RunRes P N S w [] []
  | tmp {t : Nat} {v : Value} {r : List ResultVar} {vs : List Value} (h : lk S t = some v) (k : RunRes P N S w r vs) : RunRes P N S w (.tmp t :: r) (v :: vs)
  | cell {t : Nat} {T : TypeId} {ad : Addr} {v : Value} {r : List ResultVar} {vs : List Value} (h : lk S t = some (.pointer (some ad))) (hl : (loadVar T ad).run P w = .ok v w) (k : RunRes P N S w r vs) : RunRes P N S w (.cell t T :: r) (v :: vs)
def resv : List Value → Value
  | [v] => v
  | l => .tuple l.toArray
def resF (a : Act) : ResultVar → Sem Value
  | .tmp t => pure (a.tmps.getD t undef)
  | .cell b t => do loadVar t (← asAddr (a.tmps.getD b undef))
theorem results_eq (fn : Func) (a : Act) : results fn a.tmps = (do let vs ← fn.results.mapM (resF a); pure (if h : vs.size = 1 then vs[0] else .tuple vs)) := rfl
theorem RunRes.run {rs : List ResultVar} {vs : List Value} (h : RunRes P N S w rs vs) (ha : Fr N S a) {fn : Func} (e : fn.results.toList = rs) : (results fn a.tmps).run P w = .ok (resv vs) w := by
  have k : (rs.mapM (resF a)).run P w = .ok vs w := by
    clear e
    induction h with
    | nil => rfl
    | tmp h k ih => simp only [List.mapM_cons, resF, Sem.run_bind, Sem.run_pure, Result.andThen_ok, ih, ha.look _ _ h]
    | cell h hl k ih => simp only [List.mapM_cons, resF, Sem.run_bind, Sem.run_pure, Result.andThen_ok, ih, ha.look _ _ h, asAddr, hl]
  have e' : fn.results = rs.toArray := by rw [← e]
  rw [results_eq, e']
  have hm : (rs.toArray.mapM (resF a)).run P w = .ok vs.toArray w := by
    rw [List.mapM_toArray, map_eq_pure_bind]
    simp [k]
  simp only [Sem.run_bind, hm, Result.andThen_ok, Sem.run_pure]
  congr 1
  cases vs with
  | nil => rfl
  | cons v r => cases r <;> simp [resv]

/-! ### any order, by the list of those that have come up -/
def lst (n : Nat) (l : List Nat) : Array Bool := ((List.range n).map fun i => l.any (Nat.beq · i)).toArray
theorem lst_nil (n : Nat) : Array.replicate n false = lst n [] := by
  apply Array.ext'
  simp [lst]
  induction n with
  | zero => rfl
  | succ n ih => rw [List.range_succ, List.map_append, ← ih]; simp [List.replicate_succ']
theorem lst_set {n : Nat} {l : List Nat} (i : Nat) : (lst n l).setIfInBounds i true = lst n (i :: l) := by
  apply Array.ext (by simp [lst])
  intro k h1 h2
  simp only [lst, List.size_toArray, List.length_map, List.length_range] at h2
  by_cases e : i = k
  · subst e
    simp [lst, h2]
  · have : Nat.beq i k = false := by
      cases hb : Nat.beq i k with
      | false => rfl
      | true => exact absurd (Nat.eq_of_beq_eq_true hb) e
    simp [lst, Array.getElem_setIfInBounds, e, this]
section
variable {ts l : List Nat} {n f d : Nat} {v : Value}
theorem CodT.drawL {id : Nat} (C : World → Prop) (ts : List Nat) (hm : P.follows .mixedOrders = true) (hn : ops.size = n)
    (h : GmT P ops (NoPanic Q) C ts N n (lst n []) S { w with drawn := w.drawn + 1 }) : CodT ρ P (.region id ops true) Q N S w :=
  CodT.draw C ts hm hn (by rw [lst_nil]; exact h)
/-- one that reckons alone -/
theorem GmT.p (i d : Nat) (v : Value) (f0 : Nat) (hf : freeB ops (lst n l) i = true) (hts : (ts.all fun t => reach ops f0 t i) = true) (hC : C w) (hp : pstep P N ops S i = some ((d, v) :: S))
    (h : GmT P ops (NoPanic Q) C ts N f (lst n (i :: l)) ((d, v) :: S) w) : GmT P ops (NoPanic Q) C ts N (f + 1) (lst n l) S w := GmT.pure f0 hf (lst_set i) hts hC hp h
theorem GmT.p' (i d : Nat) (v : Value) (hf : freeB ops (lst n l) i = true) (hp : pstep P N ops S i = some ((d, v) :: S))
    (h : GmT P ops (NoPanic Q) C ts N f (lst n (i :: l)) ((d, v) :: S) w) : GmT P ops (NoPanic Q) C ts N (f + 1) (lst n l) S w := GmT.pure' hf (lst_set i) hp h
/-- one that reads -/
theorem GmT.r (f0 : Nat) (hf : freeB ops (lst n l) i = true) (hts : (ts.all fun t => reach ops f0 t i) = true) (h : Yl P N ops S i C d v) (hC : C w)
    (hk : GmT P ops (NoPanic Q) C ts N f (lst n (i :: l)) ((d, v) :: S) w) : GmT P ops (NoPanic Q) C ts N (f + 1) (lst n l) S w := GmT.yl f0 hf (lst_set i) hts h hC hk
/-- the only one that may come up -/
theorem GmT.o {Q0 : Exit → Act → World → Prop} (hr : Region.ready .any ops (lst n l) = [i]) (h : Does P Q0 N ops i S w fun S' w' => (ts.contains i = false → C w → C w') ∧ GmT P ops Q0 C ts N f (lst n (i :: l)) S' w') :
    GmT P ops Q0 C ts N (f + 1) (lst n l) S w := GmT.one (lst_set i) hr h
end
end Go.Cen
