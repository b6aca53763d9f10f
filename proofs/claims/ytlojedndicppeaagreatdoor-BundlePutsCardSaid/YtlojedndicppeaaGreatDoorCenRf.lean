/- Ranges over functions: the statement, a round, the function's end behind it. No program in sight. -/
import Derived.Test.YtlojedndicppeaaGreatDoorCenLift6
import Derived.RangeFuncRecord
set_option linter.unusedVariables false
set_option linter.unusedSimpArgs false
namespace Go.Cen
variable {ρ : Option Nat} {P : Program} {Q : Exit → Act → World → Prop} {N : FN} {ops : Array Oper} {i : Nat} {S S' : Sl} {w w' w0 : World} {K : Sl → World → Prop} {Z Z' : Hp} {A B R : HP}
/-! ### facts, and what there is, within what is owned -/
def hpEx {α : Type} (f : α → HP) : HP := fun h => ∃ x, f x h
theorem Inv.exo {α : Type} {f : α → HP} (h : Inv w0 Z w (star (hpEx f) R)) : ∃ x, Inv w0 Z w (star (f x) R) := by
  obtain ⟨_, ⟨x, y, ⟨u, a⟩, b, d, e⟩, dz, m⟩ := h.mem
  exact ⟨u, h.os, h.tape, h.output, _, ⟨x, y, a, b, d, e⟩, dz, m⟩
theorem Inv.exc {α : Type} {f : α → HP} (u : α) (h : Inv w0 Z w (star (f u) R)) : Inv w0 Z w (star (hpEx f) R) := h.mono (star_l fun _ hx => ⟨u, hx⟩)
/-! ### the loop's record -/
def mk (r : Nat) : Deferred := { target := .collected r, args := #[] }
def rec0 (fn : FuncId) (tmps : Array Value) (ps : Array Tmp) (assign body : Code) (r : Nat) (st : LoopState) : Obj := .loop { state := st, pending := none, fn, tmps, params := ps, assign, body, defers := r }
def YAt (P : Program) (l : Nat) (vs : List Value) (w : World) (R : Ending → World → Prop) : Prop :=
  ∃ f tmps assign body, (Instr.yield l vs.toArray).run P w = .ok (.round l f tmps assign body) w ∧ RoundIn Fence.wide 0 P l f tmps assign body w R
def asYield (N : FN) (ops : Array Oper) (S : Sl) (i : Nat) : Option (Option Nat × Nat × List Value) :=
  match sp N ops S i with
  | some o => match o.op with
    | .call cc => match cc.callee with
      | .value f => match ev S f, evs S cc.args.toList with | some (.func (.yield l) fs cp), some vs => if fs.size = 0 then some (o.dst, l, vs) else none | _, _ => none
      | _ => none
    | _ => none
  | none => none
theorem Does.yieldCall {d : Option Nat} {l : Nat} {vs : List Value} {R : Ending → World → Prop} (h : asYield N ops S i = some (d, l, vs)) (hy : YAt P l vs w R)
    (hk : ∀ e w', R e w' → ∃ v, e = .returned v ∧ K (putS S d v) w') : Does P Q N ops i S w K := by
  unfold asYield at h
  split at h
  · rename_i o hs
    split at h
    · rename_i cc e2
      split at h
      · rename_i f e3
        split at h
        · rename_i l' fs cp vs' h1 h2
          split at h
          · rename_i hz
            cases h
            obtain ⟨fn, tmps, assign, body, hr, hR⟩ := hy
            refine Does.round hs (l := l) (f := fn) (tmps := tmps) (assign := assign) (body := body) (R := R) (w' := w) ?_ hR hk
            obtain ⟨callee, args, argTypes⟩ := cc
            simp only at e3 h2
            subst e3
            have : args.map (rho S) = vs.toArray := by
              apply Array.toList_inj.1
              simpa using evs_rho h2
            have hf : rho S f = .func (.yield l) fs cp := by simp [rho, h1]
            have hfs : fs = #[] := Array.eq_empty_of_size_eq_zero hz
            subst hfs
            simp only [execOp, e2, resolve, hf, this, Deferred.ofValue, Sem.run_bind, Sem.run_pure, Result.andThen_ok, Go.invoke]
            simpa using hr
          · cases h
        · cases h
      · cases h
    · cases h
  · cases h

/-! ### the statement -/
theorem CodT.rangeFunc {g : Operand} {ps : Array Tmp} {assign body : Code} {f : FuncId} {cp : List Value} (hg : ev S g = some (.func (.func f) #[] cp.toArray)) (hn : ∀ args w, (callFunc f args).run P w = .ok (.enter f args) w) (hI : Inv w0 Z w A)
    (h : ∀ (fn : FuncId) (a : Act) (l r : Nat) (w : World), Fr N S a → Inv w0 Z w (star (pt l (rec0 fn a.tmps ps assign body r .ready)) (star (pt r (.deferred (some []))) A)) →
      Calls P f (.func (.yield l) #[] #[] :: cp).toArray w fun e w' => ∃ v Z' B, e = .returned v ∧ Inv w0 Z' w' (star (pt l (rec0 fn a.tmps ps assign body r .ready)) B) ∧ ∀ w'', Inv w0 Z' w'' B → Qn Q .normal ⟨N.n, mk r :: N.d⟩ S w'') :
    CodT none P (.rangeFunc g ps assign body) Q N S w := by
  intro a ha
  refine wpIn_rangeFunc (F := Fence.wide) fun fn _ => ?_
  have hI2 := (hI.new (.deferred (some []))).new (rec0 fn a.tmps ps assign body w.heap.size .ready)
  have he := run_enterLoop_outer (P := P) (w := w) fn a.tmps ps assign body
  obtain ⟨W, hW⟩ : ∃ W, ((w.alloc (.deferred (some []))).alloc (.loop { state := .ready, pending := none, fn, tmps := a.tmps, params := ps, assign, body, defers := w.heap.size })) = W := ⟨_, rfl⟩
  have hI3 : Inv w0 Z W (star (pt (w.heap.size + 1) (rec0 fn a.tmps ps assign body w.heap.size .ready)) (star (pt w.heap.size (.deferred (some []))) A)) := by
    have hs : ({ w with heap := w.heap.push (.deferred (some [])) } : World).heap.size = w.heap.size + 1 := by simp
    rw [hs] at hI2
    rw [← hW]
    exact hI2
  rw [hW] at he
  have hc := h fn a (w.heap.size + 1) w.heap.size W ha hI3
  refine ⟨w.heap.size + 1, _, W, { target := .fn (.func f) cp.toArray, args := #[.func (.yield (w.heap.size + 1)) #[] #[]] }, W, f, (.func (.yield (w.heap.size + 1)) #[] #[] :: cp).toArray, W, he, ?_, fun _ _ => trivial, ?_, fun hd => (by cases hd), callsIn_wide.2 (Calls.mono hc ?_)⟩
  · have hev : a.eval g = .func (.func f) #[] cp.toArray := ha.ev hg
    have e1 : (#[Operand.const (Value.func (Fn.yield (w.heap.size + 1)) #[] #[])] : Array Operand).map a.eval = #[.func (.yield (w.heap.size + 1)) #[] #[]] := by simp [Act.eval]
    simp only [rangeCall, resolve, hev, e1, Deferred.ofValue, Sem.run_pure, Array.empty_append]
  · simp only [Go.invoke, hn]
    congr 2
    apply Array.toList_inj.1
    simp
  · rintro e w' ⟨v, Z', B, rfl, hI', hk⟩
    have hb := hI'.block
    refine ⟨none, _, run_endLoop hb (by simp), ?_⟩
    refine hk _ ((hI'.put (o' := .loop _) (World.putObj_heap_same (Array.getElem?_eq_some_iff.1 hb).1) (fun k hk => World.putObj_heap_other hk) rfl rfl rfl).drop) _ ?_
    exact ⟨ha.size, by simp [ha.df, mk], ha.look⟩

/-! ### a round -/
def zipS : List Nat → List Value → Sl → Sl
  | t :: ts, v :: vs, S => zipS ts vs ((t, v) :: S)
  | _, _, S => S
theorem Fr.zip {n : Nat} : ∀ (ts : List Nat) (vs : List Value) {S : Sl} {a : Act}, (ts.all fun t => Nat.blt t n) = true → Fr ⟨n, []⟩ S a → Fr ⟨n, []⟩ (zipS ts vs S) { tmps := (ts.zip vs).foldl (fun tmps (p : Nat × Value) => tmps.setIfInBounds p.1 p.2) a.tmps, defers := [] }
  | [], vs, S, a, _, h => by cases vs <;> exact ⟨h.size, rfl, h.look⟩
  | t :: ts, [], S, a, _, h => ⟨h.size, rfl, h.look⟩
  | t :: ts, v :: vs, S, a, hl, h => by
    simp only [List.all_cons, Bool.and_eq_true] at hl
    have ht : t < n := Nat.lt_of_lt_of_le (Nat.lt_succ_self t) (Nat.le_of_ble_eq_true hl.1)
    exact Fr.zip ts vs hl.2 (h.put ht v)
theorem zip_foldl (ps : Array Tmp) (vs : List Value) (tmps : Array Value) : (ps.zip vs.toArray).foldl (fun tmps (t, a) => tmps.setIfInBounds t a) tmps = (ps.toList.zip vs).foldl (fun tmps (p : Nat × Value) => tmps.setIfInBounds p.1 p.2) tmps := by
  rw [← Array.foldl_toList]
  simp [Array.toList_zip]
/-- What is asked at a round's end: the body has come to its end; the record, busy, is owned. -/
def roundQ (P : Program) (w0 : World) (l : Nat) (fn : FuncId) (tmps : Array Value) (ps : Array Tmp) (assign body : Code) (r : Nat) (R' : Ending → World → Prop) : Exit → Act → World → Prop
  | .normal, _, w => ∃ Z R, Inv w0 Z w (star (pt l (rec0 fn tmps ps assign body r .busy)) R) ∧ ∀ w', Inv w0 Z w' (star (pt l (rec0 fn tmps ps assign body r .ready)) R) → R' (.returned (.bool true)) w'
  | _, _, _ => False
theorem YAt.round {fn : FuncId} {a : Act} {ps : Array Tmp} {assign body : Code} {r l : Nat} {vs : List Value} {R' : Ending → World → Prop} (hI : Inv w0 Z w (star (pt l (rec0 fn a.tmps ps assign body r .ready)) R)) (hsz : vs.length = ps.size) (ha : Fr N S a) (hps : (ps.toList.all fun t => Nat.blt t N.n) = true)
    (h : CodT (some l) P assign (Exit.then (fun a₁ w₁ => ∃ Z1 R1, Inv w0 Z1 w₁ (star (pt l (rec0 fn a.tmps ps assign body r .ready)) R1) ∧ ∀ w₂, Inv w0 Z1 w₂ (star (pt l (rec0 fn a.tmps ps assign body r .busy)) R1) → body.wpIn (fen (some l)) 0 P (roundQ P w0 l fn a.tmps ps assign body r R') a₁ w₂) (fun _ _ _ => False)) ⟨N.n, []⟩ (zipS ps.toList vs S) w) :
    YAt P l vs w R' := by
  have hb := hI.block
  refine ⟨_, _, _, _, run_yield hb (by simpa using hsz), ?_⟩
  refine roundIn_of_wpIn (F := Fence.wide) trivial ?_
  simp only
  rw [zip_foldl]
  have hf : Fr ⟨N.n, []⟩ S { tmps := a.tmps, defers := [] } := ⟨ha.size, rfl, ha.look⟩
  refine wpIn_mono (h _ (Fr.zip (a := { tmps := a.tmps, defers := [] }) ps.toList vs hps hf)) fun e a₁ w₁ hq => ?_
  cases e <;> first | exact hq.elim | skip
  obtain ⟨Z1, R1, hI1, hk⟩ := hq
  have hb1 := hI1.block
  refine ⟨_, run_beginRound hb1 rfl, wpIn_mono (hk _ (hI1.put (o' := rec0 fn a.tmps ps assign body r .busy) (World.putObj_heap_same (Array.getElem?_eq_some_iff.1 hb1).1) (fun k hk => World.putObj_heap_other hk) rfl rfl rfl)) fun e a₂ w₂ hq => ?_⟩
  cases e <;> first | exact hq.elim | skip
  obtain ⟨Z2, R2, hI2, hk2⟩ := hq
  have hb2 := hI2.block
  exact ⟨_, _, run_endRound none hb2, hk2 _ (hI2.put (o' := rec0 fn a.tmps ps assign body r .ready) (World.putObj_heap_same (Array.getElem?_eq_some_iff.1 hb2).1) (fun k hk => World.putObj_heap_other hk) rfl rfl rfl)⟩
theorem Qn.round {fn : FuncId} {tmps : Array Value} {ps : Array Tmp} {assign body : Code} {r l : Nat} {R' : Ending → World → Prop} (hI : Inv w0 Z w (star (pt l (rec0 fn tmps ps assign body r .busy)) R))
    (h : ∀ w', Inv w0 Z w' (star (pt l (rec0 fn tmps ps assign body r .ready)) R) → R' (.returned (.bool true)) w') : Qn (roundQ P w0 l fn tmps ps assign body r R') .normal N S w := fun a ha => ⟨Z, R, hI, h⟩

/-- The same, the record by a name. -/
theorem CodT.rangeFn {g : Operand} {ps : Array Tmp} {assign body : Code} {f : FuncId} {cp : List Value} (hg : ev S g = some (.func (.func f) #[] cp.toArray)) (hn : ∀ args w, (callFunc f args).run P w = .ok (.enter f args) w) (hI : Inv w0 Z w A)
    (h : ∀ (a : Act) (l r : Nat) (w : World) (rc : LoopState → Obj) (fn : FuncId), rc = rec0 fn a.tmps ps assign body r → Fr N S a → Inv w0 Z w (star (pt l (rc .ready)) (star (pt r (.deferred (some []))) A)) →
      Calls P f (.func (.yield l) #[] #[] :: cp).toArray w fun e w' => ∃ v Z' B, e = .returned v ∧ Inv w0 Z' w' (star (pt l (rc .ready)) B) ∧ ∀ w'', Inv w0 Z' w'' B → Qn Q .normal ⟨N.n, mk r :: N.d⟩ S w'') :
    CodT none P (.rangeFunc g ps assign body) Q N S w :=
  CodT.rangeFunc hg hn hI fun fn a l r w ha hI => h a l r w _ fn rfl ha hI
theorem YAt.roundN {fn : FuncId} {a : Act} {ps : Array Tmp} {assign body : Code} {r l : Nat} {vs : List Value} {R' : Ending → World → Prop} {rc : LoopState → Obj} (hrc : rc = rec0 fn a.tmps ps assign body r) (hI : Inv w0 Z w (star (pt l (rc .ready)) R)) (hsz : vs.length = ps.size) (ha : Fr N S a) (hps : (ps.toList.all fun t => Nat.blt t N.n) = true)
    (h : CodT (some l) P assign (Exit.then (fun a₁ w₁ => ∃ Z1 R1, Inv w0 Z1 w₁ (star (pt l (rc .ready)) R1) ∧ ∀ w₂, Inv w0 Z1 w₂ (star (pt l (rc .busy)) R1) → body.wpIn (fen (some l)) 0 P (roundQ P w0 l fn a.tmps ps assign body r R') a₁ w₂) (fun _ _ _ => False)) ⟨N.n, []⟩ (zipS ps.toList vs S) w) :
    YAt P l vs w R' := by subst hrc; exact YAt.round hI hsz ha hps h
theorem Qn.roundN {fn : FuncId} {tmps : Array Value} {ps : Array Tmp} {assign body : Code} {r l : Nat} {R' : Ending → World → Prop} {rc : LoopState → Obj} (hrc : rc = rec0 fn tmps ps assign body r) (hI : Inv w0 Z w (star (pt l (rc .busy)) R))
    (h : ∀ w', Inv w0 Z w' (star (pt l (rc .ready)) R) → R' (.returned (.bool true)) w') : Qn (roundQ P w0 l fn tmps ps assign body r R') .normal N S w := by subst hrc; exact Qn.round hI h
/-! ### what is owned, in groups -/
theorem grp2 (a b r : HP) : ent (star a (star b r)) (star (star a b) r) := star_assoc' a b r
theorem grp3 (a b c r : HP) : ent (star a (star b (star c r))) (star (star a (star b c)) r) := ent_trans (star_r (grp2 b c r)) (star_assoc' a _ r)
theorem grp4 (a b c d r : HP) : ent (star a (star b (star c (star d r)))) (star (star a (star b (star c d))) r) := ent_trans (star_r (grp3 b c d r)) (star_assoc' a _ r)
theorem grp5 (a b c d e r : HP) : ent (star a (star b (star c (star d (star e r))))) (star (star a (star b (star c (star d e)))) r) := ent_trans (star_r (grp4 b c d e r)) (star_assoc' a _ r)
theorem ung2 (a b r : HP) : ent (star (star a b) r) (star a (star b r)) := star_assoc a b r
theorem ung3 (a b c r : HP) : ent (star (star a (star b c)) r) (star a (star b (star c r))) := ent_trans (star_assoc a _ r) (star_r (ung2 b c r))
theorem ung4 (a b c d r : HP) : ent (star (star a (star b (star c d))) r) (star a (star b (star c (star d r)))) := ent_trans (star_assoc a _ r) (star_r (ung3 b c d r))
theorem ung5 (a b c d e r : HP) : ent (star (star a (star b (star c (star d e)))) r) (star a (star b (star c (star d (star e r))))) := ent_trans (star_assoc a _ r) (star_r (ung4 b c d e r))
/-! ### a function that has such a loop -/
theorem calls_introM {f : FuncId} {fn : Func} {c : Code} {args : List Value} {R : Ending → World → Prop} (n : Nat) (hf : P.funcs[f]? = some fn) (hb : fn.body = some c) (hN : fn.ntmps = n) (hn : Nat.ble args.length n = true)
    (h : CodT none P c (bodyPostM Fence.wide 0 P fn R) ⟨n, []⟩ (args0 0 args) w) : Calls P f args.toArray w R :=
  (callsIn_wide (n := 0)).1 (callsIn_of_wp_marks (F := Fence.wide) (n := 0) hf hb trivial (by subst hN; exact h _ (Fr.enter fn.ntmps args (Nat.le_of_ble_eq_true hn))))
theorem post_retM {fn : Func} {R : Ending → World → Prop} {v : Value} (hr : ∀ a, Fr N S a → (results fn a.tmps).run P w = .ok v w) (h : R (.returned v) w) (hd : N.d = [] := by rfl) :
    Qn (bodyPostM Fence.wide 0 P fn R) .ret N S w := fun a ha => by
  have := ha.df.trans hd
  show LeavesInM Fence.wide 0 P fn a.tmps R a.defers .returning w
  rw [this]
  exact ⟨v, hr a ha, h⟩
theorem post_mark {fn : Func} {R : Ending → World → Prop} {n r : Nat} {A : HP} (hI : Inv w0 Z w (star (pt r (.deferred (some []))) A)) (k : ∀ w', Inv w0 Z w' A → Qn (bodyPostM Fence.wide 0 P fn R) .ret ⟨n, []⟩ S w') :
    Qn (bodyPostM Fence.wide 0 P fn R) .ret ⟨n, [mk r]⟩ S w := fun a ha => by
  have hd := ha.df
  have hb := hI.block
  show LeavesInM Fence.wide 0 P fn a.tmps R a.defers .returning w
  rw [hd]
  refine ⟨by simp, .inl ⟨r, _, rfl, run_takeDeferred hb, ?_⟩⟩
  exact k _ ((hI.put (o' := .deferred none) (World.putObj_heap_same (Array.getElem?_eq_some_iff.1 hb).1) (fun k hk => World.putObj_heap_other hk) rfl rfl rfl).drop) { tmps := a.tmps, defers := [] } ⟨ha.size, rfl, ha.look⟩
end Go.Cen
