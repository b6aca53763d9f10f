/- Frames told by the slots that matter; the rules of a walk that names no frame. No program in sight. -/
import Derived.Test.YthdoklobbcedcaaCenSl
set_option linter.unusedVariables false
set_option linter.unusedSimpArgs false
namespace Go.Cen

/-! ### frames -/
abbrev Sl := List (Nat × Value)
def lk : Sl → Nat → Option Value
  | [], _ => none
  | p :: S, t => bif Nat.beq p.1 t then some p.2 else lk S t
def ev (S : Sl) : Operand → Option Value
  | .tmp t => lk S t
  | .const v => some v
  | .global g => some (.pointer (some ⟨g, 0, none⟩))
  | .func f => some (.func (.func f) #[] #[])
def evs (S : Sl) : List Operand → Option (List Value)
  | [] => some []
  | x :: r => match ev S x, evs S r with | some v, some l => some (v :: l) | _, _ => none
def keep (S : Sl) : List Nat → Sl
  | [] => []
  | t :: r => match lk S t with | some v => (t, v) :: keep S r | none => keep S r
/-- The frame has so many slots, nothing is deferred, and these slots hold these values. -/
structure Fr (N : Nat) (S : Sl) (a : Act) : Prop where
  size : a.tmps.size = N
  df : a.defers = []
  look : ∀ t v, lk S t = some v → a.tmps.getD t undef = v
variable {N : Nat} {S S' : Sl} {a : Act}

theorem lk_cons {d : Nat} {v : Value} {t : Nat} : lk ((d, v) :: S) t = if d = t then some v else lk S t := by
  simp only [lk, cond_eq_ite]
  by_cases h : d = t
  · subst h; simp
  · have : Nat.beq d t = false := by
      cases e : Nat.beq d t with
      | false => rfl
      | true => exact absurd (Nat.eq_of_beq_eq_true e) h
    simp [h, this]
theorem Fr.ev (h : Fr N S a) {x : Operand} {v : Value} (e : ev S x = some v) : a.eval x = v := by
  cases x <;> simp only [Cen.ev] at e
  · exact h.look _ _ e
  all_goals (cases e; rfl)
theorem Fr.evs (h : Fr N S a) : ∀ {l : List Operand} {vs : List Value}, evs S l = some vs → l.map a.eval = vs := by
  intro l
  induction l with
  | nil => intro vs e; simp only [Cen.evs, Option.some.injEq] at e; simpa using e
  | cons x r ih =>
    intro vs e
    simp only [Cen.evs] at e
    split at e
    · rename_i v l' h1 h2
      cases e
      simp [h.ev h1, ih h2]
    · cases e
theorem Fr.put (h : Fr N S a) {d : Nat} (hd : d < N) (v : Value) : Fr N ((d, v) :: S) (a.put (some d) v) := by
  refine ⟨by simp [Act.put, h.size], h.df, fun t u e => ?_⟩
  rw [lk_cons] at e
  simp only [Act.put]
  by_cases ht : d = t
  · subst ht
    simp only [if_true, Option.some.injEq] at e
    subst e
    have : d < a.tmps.size := by rw [h.size]; exact hd
    simp [Array.getD, this]
  · rw [if_neg ht] at e
    have := h.look t u e
    simp only [Array.getD_eq_getD_getElem?, Array.getElem?_setIfInBounds, if_neg ht] at this ⊢
    exact this
theorem Fr.sub (h : Fr N S a) (hs : ∀ t v, lk S' t = some v → lk S t = some v) : Fr N S' a :=
  ⟨h.size, h.df, fun t v e => h.look t v (hs t v e)⟩
theorem lk_keep : ∀ (l : List Nat) (t : Nat) (v : Value), lk (keep S l) t = some v → lk S t = some v := by
  intro l
  induction l with
  | nil => intro t v e; cases e
  | cons x r ih =>
    intro t v e
    simp only [keep] at e
    split at e
    · rename_i u hu
      rw [lk_cons] at e
      by_cases hx : x = t
      · subst hx; simp only [if_true] at e; rw [hu]; exact e
      · rw [if_neg hx] at e; exact ih t v e
    · exact ih t v e
theorem Fr.keep (h : Fr N S a) (l : List Nat) (e : keep S l = S') : Fr N S' a := h.sub (e ▸ lk_keep l)
/-- Where a call begins: its arguments stand in the first slots. -/
def args0 : Nat → List Value → Sl
  | _, [] => []
  | i, v :: r => (i, v) :: args0 (i + 1) r
theorem lk_args0 : ∀ (l : List Value) (i t : Nat) (v : Value), lk (args0 i l) t = some v → i ≤ t ∧ l[t - i]? = some v := by
  intro l
  induction l with
  | nil => intro i t v e; cases e
  | cons x r ih =>
    intro i t v e
    simp only [args0] at e
    rw [lk_cons] at e
    by_cases h : i = t
    · subst h; simp only [if_true, Option.some.injEq] at e; subst e; simp
    · rw [if_neg h] at e
      obtain ⟨h1, h2⟩ := ih (i + 1) t v e
      refine ⟨by omega, ?_⟩
      rw [show t - i = (t - (i + 1)) + 1 by omega]
      simpa using h2
theorem Fr.enter (N : Nat) (l : List Value) (h : l.length ≤ N) :
    Fr N (args0 0 l) { tmps := l.toArray ++ Array.replicate (N - l.toArray.size) undef, defers := [] } := by
  refine ⟨by simp; omega, rfl, fun t v e => ?_⟩
  have h1 := (lk_args0 l 0 t v e).2
  simp only [Nat.sub_zero] at h1
  have hlt : t < l.length := (List.getElem?_eq_some_iff.1 h1).1
  have h2 := (List.getElem?_eq_some_iff.1 h1).2
  simp only [Array.getD]
  rw [dif_pos (by simp; omega)]
  show (l.toArray ++ Array.replicate (N - l.toArray.size) undef)[t]'_ = v
  rw [Array.getElem_append_left (by simpa using hlt)]
  simpa using h2

/-! ### the rules -/
section
variable {P : Program} {Q : Exit → Act → World → Prop} {ops : Array Oper} {w w' : World} {l : List Nat} {c x y : Code}

def OpsT (P : Program) (ops : Array Oper) (Q : Exit → Act → World → Prop) (N : Nat) (l : List Nat) (S : Sl) (w : World) : Prop :=
  ∀ a, Fr N S a → wpOps P ops Q l a w
def CodT (P : Program) (c : Code) (Q : Exit → Act → World → Prop) (N : Nat) (S : Sl) (w : World) : Prop :=
  ∀ a, Fr N S a → c.wp P Q a w
/-- What follows, asked in a frame told by its slots. -/
def Qn (Q : Exit → Act → World → Prop) (e : Exit) (N : Nat) (S : Sl) (w : World) : Prop := ∀ a, Fr N S a → Q e a w

theorem CodT.keep (l : List Nat) (e : keep S l = S') (h : CodT P c Q N S' w) : CodT P c Q N S w := fun a ha => h a (ha.keep l e)
theorem OpsT.keep (k : List Nat) (e : keep S k = S') (h : OpsT P ops Q N l S' w) : OpsT P ops Q N l S w := fun a ha => h a (ha.keep k e)
theorem Qn.keep {e : Exit} (l : List Nat) (he : keep S l = S') (h : Qn Q e N S' w) : Qn Q e N S w := fun a ha => h a (ha.keep l he)

theorem CodT.region {id : Nat} {n : Nat} (hn : ops.size = n) (h : OpsT P ops Q N (List.range n) S w) : CodT P (.region id ops false) Q N S w :=
  fun a ha => wp_region (by rw [hn]; exact h a ha)
theorem CodT.seq (h : CodT P x (Exit.then (fun a w => y.wp P Q a w) Q) N S w) : CodT P (.seq x y) Q N S w := fun a ha => wp_seq (h a ha)
/-- The ways through x meet again. -/
theorem CodT.meet (J : Act → World → Prop) (h : CodT P x (Exit.then J Q) N S w) (k : ∀ a w, J a w → y.wp P Q a w) : CodT P (.seq x y) Q N S w :=
  fun a ha => wp_seq (wp_mono (h a ha) fun e a' w' q => by cases e <;> first | exact k a' w' q | exact q)
theorem OpsT.done (h : Qn Q .normal N S w) : OpsT P ops Q N [] S w := fun a ha => h a ha
theorem Qn.then (h : CodT P y Q N S w) : Qn (Exit.then (fun a w => y.wp P Q a w) Q) .normal N S w := fun a ha => h a ha
theorem Qn.thenJ {J : Act → World → Prop} (h : ∀ a, Fr N S a → J a w) : Qn (Exit.then J Q) .normal N S w := fun a ha => h a ha
theorem CodT.of (h : CodT P c Q N S w) (ha : Fr N S a) : c.wp P Q a w := h a ha
theorem Qn.ret_then {K : Act → World → Prop} (h : Qn Q .ret N S w) : Qn (Exit.then K Q) .ret N S w := fun a ha => h a ha
theorem Qn.exit_then {K : Act → World → Prop} {k : Nat} (h : Qn Q (.exit k) N S w) : Qn (Exit.then K Q) (.exit k) N S w := fun a ha => h a ha
theorem Qn.goto_then {K : Act → World → Prop} {k : Nat} (h : Qn Q (.goto k) N S w) : Qn (Exit.then K Q) (.goto k) N S w := fun a ha => h a ha
theorem Qn.then_other {e : Exit} {K : Act → World → Prop} (he : e ≠ .normal) (h : Qn Q e N S w) : Qn (Exit.then K Q) e N S w := fun a ha => by
  cases e <;> first | exact absurd rfl he | exact h a ha
theorem Qn.block {id : Nat} (h : Qn Q .normal N S w) : Qn (Exit.inBlock id Q) (.exit id) N S w := fun a ha => by
  simp only [Exit.inBlock, if_true]; exact h a ha
theorem Qn.block_other {id k : Nat} (hk : k ≠ id) (h : Qn Q (.exit k) N S w) : Qn (Exit.inBlock id Q) (.exit k) N S w := fun a ha => by
  simp only [Exit.inBlock, if_neg hk]; exact h a ha
theorem Qn.block_ret {id : Nat} (h : Qn Q .ret N S w) : Qn (Exit.inBlock id Q) .ret N S w := fun a ha => h a ha
theorem Qn.block_goto {id k : Nat} (h : Qn Q (.goto k) N S w) : Qn (Exit.inBlock id Q) (.goto k) N S w := fun a ha => h a ha
theorem Qn.block_normal {id : Nat} (h : Qn Q .normal N S w) : Qn (Exit.inBlock id Q) .normal N S w := fun a ha => h a ha
theorem CodT.block {id : Nat} (h : CodT P c (Exit.inBlock id Q) N S w) : CodT P (.block id c) Q N S w := fun a ha => wp_block (h a ha)
theorem CodT.skip (h : Qn Q .normal N S w) : CodT P .skip Q N S w := fun a ha => wp_skip (h a ha)
theorem CodT.exit {id : Nat} (h : Qn Q (.exit id) N S w) : CodT P (.exit id) Q N S w := fun a ha => wp_exit (h a ha)
theorem CodT.ret (h : Qn Q .ret N S w) : CodT P .ret Q N S w := fun a ha => wp_ret (h a ha)
theorem CodT.label {i : Nat} (h : Qn Q .normal N S w) : CodT P (.label i) Q N S w := fun a ha => wp_label (h a ha)
theorem CodT.yes {o : Operand} (e : Cen.ev S o = some (.bool true)) (h : CodT P x Q N S w) : CodT P (.cond o x y) Q N S w :=
  fun a ha => wp_cond_true (ha.ev e) (h a ha)
theorem CodT.no {o : Operand} (e : Cen.ev S o = some (.bool false)) (h : CodT P y Q N S w) : CodT P (.cond o x y) Q N S w :=
  fun a ha => wp_cond_false (ha.ev e) (h a ha)
theorem CodT.yes' {o : Operand} {b : Bool} (e : Cen.ev S o = some (.bool b)) (hb : b = true) (h : CodT P x Q N S w) : CodT P (.cond o x y) Q N S w :=
  CodT.yes (by rw [e, hb]) h
theorem CodT.no' {o : Operand} {b : Bool} (e : Cen.ev S o = some (.bool b)) (hb : b = false) (h : CodT P y Q N S w) : CodT P (.cond o x y) Q N S w :=
  CodT.no (by rw [e, hb]) h

/-- A loop, by a relation with a number of rounds that are left. -/
theorem wp_loopN (I : Nat → Act → World → Prop) (round : ∀ k a w, I k a w → c.wp P (Exit.then (fun a' w' => ∃ j, j < k ∧ I j a' w') Q) a w) :
    ∀ k a w, I k a w → (Code.loop c).wp P Q a w := by
  intro k a w h0 b t cs
  have key : ∀ n a w, I n a w → ∃ e a' w', Q e a' w' ∧ Arrives P (lone (b.at a (.code c :: .inLoop c :: t)) cs w) b t cs e a' w' := by
    intro n
    induction n using Nat.strongRecOn with
    | _ n ih =>
      intro a w hI
      obtain ⟨e, a1, w1, hq, harr⟩ := round n a w hI b (.inLoop c :: t) cs
      cases e with
      | normal =>
        obtain ⟨j, hj, hI1⟩ := hq
        obtain ⟨e2, a2, w2, hq2, harr2⟩ := ih j hj a1 w1 hI1
        exact ⟨e2, a2, w2, hq2, .of_steps (Steps.trans harr (.one step_inLoop)) harr2⟩
      | exit id => exact ⟨_, a1, w1, hq, .pass (x := .inLoop c) rfl (fun _ _ => .inl (by simp)) harr⟩
      | goto l => exact ⟨_, a1, w1, hq, .pass (x := .inLoop c) rfl (fun _ _ => .inl (by simp)) harr⟩
      | ret => exact ⟨_, a1, w1, hq, .pass (x := .inLoop c) rfl (fun _ _ => .inl (by simp)) harr⟩
      | panic ch => exact ⟨_, a1, w1, hq, .pass (x := .inLoop c) rfl (fun _ _ => .inl (by simp)) harr⟩
      | outgrown => exact ⟨_, a1, w1, hq, .pass (x := .inLoop c) rfl (fun _ _ => .inl (by simp)) harr⟩
  obtain ⟨e, a', w', hq, harr⟩ := key k a w h0
  exact ⟨e, a', w', hq, .of_steps (.one step_loop) harr⟩

/-! ### one operation -/
theorem wpOps_run {i : Nat} {o : Oper} {rest : List Nat} (ho : ops[i]? = some o) (hw : Region.wanted o (yielded ops a.tmps) = true) {v : Value}
    (hr : (execOp a.eval o).run P w = .ok (.value v) w') (h : wpOps P ops Q rest (a.put o.dst v) w') : wpOps P ops Q (i :: rest) a w := by
  simp only [wpOps, ho, hw, if_true]
  left
  simp only [Oper.wp, hr, Oper.upon]
  exact h
theorem wpOps_skipv {i : Nat} {o : Oper} {rest : List Nat} (ho : ops[i]? = some o) (hw : Region.wanted o (yielded ops a.tmps) = true)
    (hr : (execOp a.eval o).run P w = .ok .skip w') (h : wpOps P ops Q rest (a.put o.dst undef) w') : wpOps P ops Q (i :: rest) a w := by
  simp only [wpOps, ho, hw, if_true]
  left
  simp only [Oper.wp, hr, Oper.upon]
  exact h
theorem wpOps_off {i : Nat} {o : Oper} {rest : List Nat} (ho : ops[i]? = some o) (hw : Region.wanted o (yielded ops a.tmps) = false)
    (h : wpOps P ops Q rest (a.put o.dst undef) w) : wpOps P ops Q (i :: rest) a w := by
  simp only [wpOps, ho, hw, Bool.false_eq_true, if_false]
  exact h
/-- May the operation be carried out, as far as the slots tell? -/
def want (ops : Array Oper) (S : Sl) (o : Oper) : Option Bool :=
  match o.guard with
  | none => some true
  | some (j, b) => match ((ops[j]?).bind (·.dst)) with
    | some d => match lk S d with
      | some (.bool c) => some (c == b)
      | some (.tuple _) => some false
      | _ => none
    | none => none
theorem want_eq {o : Oper} {b : Bool} (h : want ops S o = some b) (ha : Fr N S a) (hd : ∀ j c d, o.guard = some (j, c) → (ops[j]?).bind (·.dst) = some d → d < N) :
    Region.wanted o (yielded ops a.tmps) = b := by
  unfold want at h
  unfold Region.wanted
  cases hg : o.guard with
  | none => simp only [hg] at h; cases h; rfl
  | some p =>
    obtain ⟨j, c⟩ := p
    simp only [hg] at h
    simp only
    cases hj : (ops[j]?).bind (·.dst) with
    | none => simp [hj] at h
    | some d =>
      simp only [hj] at h
      cases hl : lk S d with
      | none => simp [hl] at h
      | some v =>
        simp only [hl] at h
        cases v <;> simp only [Option.some.injEq, reduceCtorEq] at h
        case tuple vs =>
          have h1 := ha.look d _ hl
          have hlt : d < a.tmps.size := by rw [ha.size]; exact hd j c d hg hj
          have h2 : a.tmps[d]? = some (.tuple vs) := by
            simp only [Array.getD, hlt, dif_pos] at h1
            rw [Array.getElem?_eq_getElem hlt]
            exact congrArg some h1
          subst h
          simp only [yielded, hj, Option.bind_some, h2]
          cases c <;> rfl
        rename_i c'
        have h1 := ha.look d _ hl
        have hlt : d < a.tmps.size := by rw [ha.size]; exact hd j c d hg hj
        have h2 : a.tmps[d]? = some (.bool c') := by
          simp only [Array.getD, hlt, dif_pos] at h1
          rw [Array.getElem?_eq_getElem hlt]
          exact congrArg some h1
        subst h
        simp only [yielded, hj, Option.bind_some, h2]
        cases c <;> cases c' <;> rfl
/-- Every slot that an operation of the region writes lies in the frame. -/
def dstsIn (ops : Array Oper) (N : Nat) : Bool := ops.toList.all fun o => match o.dst with | some d => Nat.blt d N | none => true
theorem dstsIn_spec (h : dstsIn ops N = true) {j : Nat} {d : Nat} (hj : (ops[j]?).bind (·.dst) = some d) : d < N := by
  cases ho : ops[j]? with
  | none => simp [ho] at hj
  | some o =>
    simp only [ho, Option.bind_some] at hj
    have hm : o ∈ ops.toList := by
      have := Array.mem_of_getElem? ho
      simpa using this
    have := List.all_eq_true.1 h o hm
    simp only [hj] at this
    exact Nat.lt_of_lt_of_le (Nat.lt_succ_self d) (Nat.le_of_ble_eq_true this)
theorem dst_lt (h : dstsIn ops N = true) {i : Nat} {o : Oper} {d : Nat} (ho : ops[i]? = some o) (hd : o.dst = some d) : d < N :=
  dstsIn_spec h (j := i) (by simp [ho, hd])
/-- The slots behind an operation that yields v. -/
def putS (S : Sl) (d : Option Nat) (v : Value) : Sl := match d with | some d => (d, v) :: S | none => S
theorem Fr.putO (h : Fr N S a) {i : Nat} {o : Oper} (hd : dstsIn ops N = true) (ho : ops[i]? = some o) (v : Value) : Fr N (putS S o.dst v) (a.put o.dst v) := by
  cases e : o.dst with
  | none => exact h
  | some d => exact h.put (dst_lt hd ho e) v
/-- AN OPERATION THAT YIELDS A VALUE. -/
theorem OpsT.val {i : Nat} (o : Oper) {rest : List Nat} (hd : dstsIn ops N = true) (ho : ops[i]? = some o) (hw : want ops S o = some true) {v : Value}
    (hr : ∀ a, Fr N S a → (execOp a.eval o).run P w = .ok (.value v) w') (h : OpsT P ops Q N rest (putS S o.dst v) w') : OpsT P ops Q N (i :: rest) S w :=
  fun a ha => wpOps_run ho (want_eq hw ha fun j c d _ hj => dstsIn_spec hd hj) (hr a ha) (h _ (ha.putO hd ho v))
theorem OpsT.act {i : Nat} (o : Oper) {rest : List Nat} (hd : dstsIn ops N = true) (ho : ops[i]? = some o) (hw : want ops S o = some true)
    (hr : ∀ a, Fr N S a → (execOp a.eval o).run P w = .ok .skip w') (h : OpsT P ops Q N rest (putS S o.dst undef) w') : OpsT P ops Q N (i :: rest) S w :=
  fun a ha => wpOps_skipv ho (want_eq hw ha fun j c d _ hj => dstsIn_spec hd hj) (hr a ha) (h _ (ha.putO hd ho undef))
theorem OpsT.off {i : Nat} (o : Oper) {rest : List Nat} (hd : dstsIn ops N = true) (ho : ops[i]? = some o) (hw : want ops S o = some false)
    (h : OpsT P ops Q N rest (putS S o.dst undef) w) : OpsT P ops Q N (i :: rest) S w :=
  fun a ha => wpOps_off ho (want_eq hw ha fun j c d _ hj => dstsIn_spec hd hj) (h _ (ha.putO hd ho undef))
/-- A call of a function of the program. -/
theorem OpsT.call {i : Nat} (o : Oper) {rest : List Nat} (hd : dstsIn ops N = true) (ho : ops[i]? = some o) (hw : want ops S o = some true) {n : FuncId} {vs : Array Value} {R : Ending → World → Prop}
    (hr : ∀ a, Fr N S a → (execOp a.eval o).run P w = .ok (.enter n vs) w) (hc : Calls P n vs w R)
    (h : ∀ e w', R e w' → ∃ v, e = .returned v ∧ OpsT P ops Q N rest (putS S o.dst v) w') : OpsT P ops Q N (i :: rest) S w := fun a ha => by
  simp only [wpOps, ho, want_eq hw ha (fun j c d _ hj => dstsIn_spec hd hj), if_true]
  left
  simp only [Oper.wp, hr a ha, Oper.upon]
  refine hc.mono fun e w' hR => ?_
  obtain ⟨v, rfl, hk⟩ := h e w' hR
  exact hk _ (ha.putO hd ho v)
end

/-! ### a function -/
theorem calls_intro {P : Program} {f : FuncId} {fn : Func} {c : Code} {args : List Value} {w : World} {R : Ending → World → Prop} (N : Nat) (hf : P.funcs[f]? = some fn) (hb : fn.body = some c) (hN : fn.ntmps = N) (hn : Nat.ble args.length N = true)
    (h : CodT P c (bodyPost P fn R) N (args0 0 args) w) : Calls P f args.toArray w R :=
  calls_of_wp hf hb (by subst hN; exact h _ (Fr.enter fn.ntmps args (Nat.le_of_ble_eq_true hn)))
theorem post_ret {P : Program} {fn : Func} {R : Ending → World → Prop} {N : Nat} {S : Sl} {w : World} {v : Value} (hr : ∀ a, Fr N S a → (results fn a.tmps).run P w = .ok v w) (h : R (.returned v) w) :
    Qn (bodyPost P fn R) .ret N S w := fun a ha => ⟨ha.df, v, hr a ha, h⟩
theorem post_normal {P : Program} {fn : Func} {R : Ending → World → Prop} {N : Nat} {S : Sl} {w : World} {v : Value} (hr : ∀ a, Fr N S a → (results fn a.tmps).run P w = .ok v w) (h : R (.returned v) w) :
    Qn (bodyPost P fn R) .normal N S w := fun a ha => ⟨ha.df, v, hr a ha, h⟩
end Go.Cen
