/- Calls by way of an interface; ranges over strings. No program in sight. -/
import Derived.Test.YtjbofffabkimeaaCenLift3
import Derived.Lib.OthersKept
set_option linter.unusedVariables false
set_option linter.unusedSimpArgs false
namespace Go.Cen
variable {P : Program} {Q : Exit → Act → World → Prop} {N : FN} {ops : Array Oper} {i : Nat} {S S' : Sl} {w w' w0 : World} {K : Sl → World → Prop}
def asInvoke (N : FN) (ops : Array Oper) (S : Sl) (i : Nat) : Option (Option Nat × Value × String × List Value) :=
  match sp N ops S i with
  | some o => match o.op with
    | .call cc => match cc.callee with
      | .invoke f nm => match ev S f, evs S cc.args.toList with | some v, some vs => some (o.dst, v, nm, vs) | _, _ => none
      | _ => none
    | _ => none
  | none => none
theorem Does.invoke {d : Option Nat} {n : FuncId} {u : Value} {nm : String} {vs : List Value} {R : Ending → World → Prop} (h : asInvoke N ops S i = some (d, u, nm, vs)) (fs : List Value) (hn : ∀ w, (callMethod u nm vs.toArray).run P w = .ok (.enter n fs.toArray) w) (hc : Calls P n fs.toArray w R)
    (hk : ∀ e w', R e w' → ∃ v, e = .returned v ∧ K (putS S d v) w') : Does P Q N ops i S w K := by
  unfold asInvoke at h
  split at h
  · rename_i o hs
    split at h
    · rename_i cc e2
      split at h
      · rename_i f nm' e3
        split at h
        · rename_i v' vs' h1 h2
          cases h
          refine Does.enter hs (n := n) (vs := fs.toArray) (R := R) ?_ hc hk
          obtain ⟨callee, args, argTypes⟩ := cc
          simp only at e3 h2
          subst e3
          have e4 : args.map (rho S) = vs.toArray := by
            apply Array.toList_inj.1
            simpa using evs_rho h2
          have hf : rho S f = u := by simp [rho, h1]
          have e5 : (#[rho S f] ++ args.map (rho S)).extract 1 (#[rho S f] ++ args.map (rho S)).size = vs.toArray := by
            rw [e4]
            apply Array.toList_inj.1
            simp
          have e6 : (#[rho S f] ++ args.map (rho S))[0]? = some u := by rw [hf, Array.getElem?_append_left (by show 0 < 1; decide)]; rfl
          simp only [execOp, e2, resolve, Sem.run_bind, Sem.run_pure, Result.andThen_ok, Go.invoke, e6]
          rw [e5]
          exact hn w
        · cases h
      · cases h
    · cases h
  · cases h

/-! ### ranges over strings -/
variable {Z : Hp} {A R : HP}
def asRange (N : FN) (ops : Array Oper) (S : Sl) (i : Nat) : Option (Nat × TypeId × Value) :=
  match sp N ops S i with
  | some o => match o.dst, o.op with
    | some d, .range T x => match ev S x with | some v => some (d, T, v) | none => none
    | _, _ => none
  | none => none
theorem Does.rangeStr {d T : Nat} {s : ByteArray} (h : asRange N ops S i = some (d, T, .string s)) (ht : P.underlying T = some .string) (hI : Inv w0 Z w A)
    (hk : ∀ b w', Inv w0 Z w' (star (pt b (.stringIter s 0)) A) → K ((d, .pointer (some ⟨b, 0, none⟩)) :: S) w') : Does P Q N ops i S w K := by
  unfold asRange at h
  split at h
  · rename_i o hs
    split at h
    · rename_i d' T' x e1 e2
      split at h
      · rename_i v' hv
        cases h
        refine Does.yield hs (v := .pointer (some ⟨w.heap.size, 0, none⟩)) (w' := { w with heap := w.heap.push (.stringIter s 0) }) ?_ (by rw [e1]; exact hk _ _ (hI.new _))
        simp [execOp, e2, rho, hv, Instr.range, run_underlying ht, newObj, Sem.run]
      · cases h
    · cases h
  · cases h
def asNext (N : FN) (ops : Array Oper) (S : Sl) (i : Nat) : Option (Nat × Value) :=
  match sp N ops S i with
  | some o => match o.dst, o.op with
    | some d, .next x true => match ev S x with | some v => some (d, v) | none => none
    | _, _ => none
  | none => none
theorem asNext_spec {d : Nat} {v : Value} (h : asNext N ops S i = some (d, v)) : ∃ o, sp N ops S i = some o ∧ o.dst = some d ∧ execOp (rho S) o = (do pure (Next.value (← Instr.next v true o.type)) : Sem Next) := by
  unfold asNext at h
  split at h
  · rename_i o hs
    split at h
    · rename_i d' x e1 e2
      split at h
      · rename_i v' hv
        cases h
        refine ⟨o, hs, e1, ?_⟩
        simp only [execOp, e2, rho, hv, Option.getD_some]
      · cases h
    · cases h
  · cases h
def runeAt (s : ByteArray) (p : Nat) : Int := ((Utf8.decode s p).1 : Int)
def runeW (s : ByteArray) (p : Nat) : Nat := (Utf8.decode s p).2
theorem Does.nextStr {d b pos : Nat} {s : ByteArray} (h : asNext N ops S i = some (d, .pointer (some ⟨b, 0, none⟩))) (hI : Inv w0 Z w (star (pt b (.stringIter s pos)) R)) (hp : pos < s.size)
    (hk : ∀ w', Inv w0 Z w' (star (pt b (.stringIter s (pos + runeW s pos))) R) → K ((d, .tuple #[.bool true, .int .i64 (pos : Int), .int .i32 (runeAt s pos)]) :: S) w') : Does P Q N ops i S w K := by
  obtain ⟨o, hs, hd, he⟩ := asNext_spec h
  have hb := hI.block
  refine Does.yield hs (v := .tuple #[.bool true, .int .i64 (pos : Int), .int .i32 (runeAt s pos)]) (w' := w.iterAt b s (pos + runeW s pos)) ?_ ?_
  · rw [he]
    have := Lib.run_next_any_at (P := P) w b s pos o.type hb hp
    simp only [Sem.run_bind, this, Result.andThen_ok, Sem.run_pure]
    rfl
  · rw [hd]
    refine hk _ (hI.put (Lib.iterAt_heap w b s pos _ hb) (fun k hk => ?_) rfl rfl rfl)
    simp only [World.iterAt, Array.getElem?_setIfInBounds]
    rw [if_neg (fun e => hk e.symm)]
theorem Does.nextEnd {d b pos : Nat} {s : ByteArray} (h : asNext N ops S i = some (d, .pointer (some ⟨b, 0, none⟩))) (hI : Inv w0 Z w (star (pt b (.stringIter s pos)) R)) (hp : ¬ pos < s.size)
    (hk : K ((d, .tuple #[.bool false]) :: S) w) : Does P Q N ops i S w K := by
  obtain ⟨o, hs, hd, he⟩ := asNext_spec h
  have hb := hI.block
  refine Does.yield hs (v := .tuple #[.bool false]) (w' := w) ?_ (by rw [hd]; exact hk)
  rw [he]
  have := Lib.run_next_end_at (P := P) w b s pos o.type hb hp
  simp only [Sem.run_bind, this, Result.andThen_ok, Sem.run_pure]
end Go.Cen
