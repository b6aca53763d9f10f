/- Frames told by the slots that matter; the rules of a walk that names no frame. No program in sight. -/
import Derived.Test.YtjbofffabkimeaaCenSl
import Derived.RangeFuncRecord
import Derived.OrdersIn
import Derived.OrdersHeld
set_option linter.unusedVariables false
set_option linter.unusedSimpArgs false
namespace Go.Cen

/-! ### frames -/
abbrev Sl := List (Nat × Value)
def lk : Sl → Nat → Option Value
  | [], _ => none
  | p :: S, t => bif Nat.beq p.1 t then some p.2 else lk S t
def ev (S : Sl) : Operand → Option Value
  | .tmp t => lk S t
  | .const v => some v
  | .global g => some (.pointer (some ⟨g, 0, none⟩))
  | .func f => some (.func (.func f) #[] #[])
def evs (S : Sl) : List Operand → Option (List Value)
  | [] => some []
  | x :: r => match ev S x, evs S r with | some v, some l => some (v :: l) | _, _ => none
def keep (S : Sl) : List Nat → Sl
  | [] => []
  | t :: r => match lk S t with | some v => (t, v) :: keep S r | none => keep S r
/-- A frame's make: so many slots; these calls are deferred. -/
structure FN where
  n : Nat
  d : List Deferred
instance (k : Nat) : OfNat FN k := ⟨⟨k, []⟩⟩
/-- The frame has so many slots, what is deferred is as told, and these slots hold these values. -/
structure Fr (N : FN) (S : Sl) (a : Act) : Prop where
  size : a.tmps.size = N.n
  df : a.defers = N.d
  look : ∀ t v, lk S t = some v → a.tmps.getD t undef = v
variable {N : FN} {S S' : Sl} {a : Act}

theorem lk_cons {d : Nat} {v : Value} {t : Nat} : lk ((d, v) :: S) t = if d = t then some v else lk S t := by
  simp only [lk, cond_eq_ite]
  by_cases h : d = t
  · subst h; simp
  · have : Nat.beq d t = false := by
      cases e : Nat.beq d t with
      | false => rfl
      | true => exact absurd (Nat.eq_of_beq_eq_true e) h
    simp [h, this]
theorem Fr.ev (h : Fr N S a) {x : Operand} {v : Value} (e : ev S x = some v) : a.eval x = v := by
  cases x <;> simp only [Cen.ev] at e
  · exact h.look _ _ e
  all_goals (cases e; rfl)
theorem Fr.evs (h : Fr N S a) : ∀ {l : List Operand} {vs : List Value}, evs S l = some vs → l.map a.eval = vs := by
  intro l
  induction l with
  | nil => intro vs e; simp only [Cen.evs, Option.some.injEq] at e; simpa using e
  | cons x r ih =>
    intro vs e
    simp only [Cen.evs] at e
    split at e
    · rename_i v l' h1 h2
      cases e
      simp [h.ev h1, ih h2]
    · cases e
theorem Fr.put (h : Fr N S a) {d : Nat} (hd : d < N.n) (v : Value) : Fr N ((d, v) :: S) (a.put (some d) v) := by
  refine ⟨by simp [Act.put, h.size], h.df, fun t u e => ?_⟩
  rw [lk_cons] at e
  simp only [Act.put]
  by_cases ht : d = t
  · subst ht
    simp only [if_true, Option.some.injEq] at e
    subst e
    have : d < a.tmps.size := by rw [h.size]; exact hd
    simp [Array.getD, this]
  · rw [if_neg ht] at e
    have := h.look t u e
    simp only [Array.getD_eq_getD_getElem?, Array.getElem?_setIfInBounds, if_neg ht] at this ⊢
    exact this
theorem Fr.sub (h : Fr N S a) (hs : ∀ t v, lk S' t = some v → lk S t = some v) : Fr N S' a :=
  ⟨h.size, h.df, fun t v e => h.look t v (hs t v e)⟩
theorem lk_keep : ∀ (l : List Nat) (t : Nat) (v : Value), lk (keep S l) t = some v → lk S t = some v := by
  intro l
  induction l with
  | nil => intro t v e; cases e
  | cons x r ih =>
    intro t v e
    simp only [keep] at e
    split at e
    · rename_i u hu
      rw [lk_cons] at e
      by_cases hx : x = t
      · subst hx; simp only [if_true] at e; rw [hu]; exact e
      · rw [if_neg hx] at e; exact ih t v e
    · exact ih t v e
theorem Fr.keep (h : Fr N S a) (l : List Nat) (e : keep S l = S') : Fr N S' a := h.sub (e ▸ lk_keep l)
/-- Where a call begins: its arguments stand in the first slots. -/
def args0 : Nat → List Value → Sl
  | _, [] => []
  | i, v :: r => (i, v) :: args0 (i + 1) r
theorem lk_args0 : ∀ (l : List Value) (i t : Nat) (v : Value), lk (args0 i l) t = some v → i ≤ t ∧ l[t - i]? = some v := by
  intro l
  induction l with
  | nil => intro i t v e; cases e
  | cons x r ih =>
    intro i t v e
    simp only [args0] at e
    rw [lk_cons] at e
    by_cases h : i = t
    · subst h; simp only [if_true, Option.some.injEq] at e; subst e; simp
    · rw [if_neg h] at e
      obtain ⟨h1, h2⟩ := ih (i + 1) t v e
      refine ⟨by omega, ?_⟩
      rw [show t - i = (t - (i + 1)) + 1 by omega]
      simpa using h2
theorem Fr.enter (n : Nat) (l : List Value) (h : l.length ≤ n) :
    Fr ⟨n, []⟩ (args0 0 l) { tmps := l.toArray ++ Array.replicate (n - l.toArray.size) undef, defers := [] } := by
  refine ⟨by simp; omega, rfl, fun t v e => ?_⟩
  have h1 := (lk_args0 l 0 t v e).2
  simp only [Nat.sub_zero] at h1
  have hlt : t < l.length := (List.getElem?_eq_some_iff.1 h1).1
  have h2 := (List.getElem?_eq_some_iff.1 h1).2
  simp only [Array.getD]
  rw [dif_pos (by simp; omega)]
  show (l.toArray ++ Array.replicate (n - l.toArray.size) undef)[t]'_ = v
  rw [Array.getElem_append_left (by simpa using hlt)]
  simpa using h2

/-! ### the rules -/
section
variable {ρ : Option Nat} {P : Program} {Q : Exit → Act → World → Prop} {ops : Array Oper} {w w' : World} {l : List Nat} {c x y : Code}

/-- What an operation comes to, by what it answers: a value, a call, a round; nothing else. -/
def uponW (P : Program) (o : Oper) (a : Act) (K : Act → World → Prop) : Result Next → Prop
  | .ok (.value v) w => K (a.put o.dst v) w
  | .ok .skip w => K (a.put o.dst undef) w
  | .ok (.enter f args) w => Calls P f args w fun e w' => match e with | .returned v => K (a.put o.dst v) w' | _ => False
  | .ok (.round l f tmps assign body) w => RoundIn Fence.wide 0 P l f tmps assign body w fun e w' => match e with | .returned v => K (a.put o.dst v) w' | _ => False
  | _ => False
def opW (P : Program) (ops : Array Oper) (i : Nat) (K : Act → World → Prop) (a : Act) (w : World) : Prop :=
  match ops[i]? with
  | none => K a w
  | some o => if Region.wanted o (yielded ops a.tmps) then uponW P o a K ((execOp a.eval o).run P w) else K (a.put o.dst undef) w
def opsW (P : Program) (ops : Array Oper) (Q : Act → World → Prop) : List Nat → Act → World → Prop
  | [] => Q
  | i :: r => opW P ops i (opsW P ops Q r)
theorem uponW_mono {P : Program} {o : Oper} {a : Act} {K K' : Act → World → Prop} (hk : ∀ a w, K a w → K' a w) : ∀ {r : Result Next}, uponW P o a K r → uponW P o a K' r := by
  intro r h
  cases r with
  | ok n w =>
    cases n <;> simp only [uponW] at h ⊢
    case value v => exact hk _ _ h
    case skip => exact hk _ _ h
    case enter f args => exact h.mono fun e w' he => by cases e <;> first | exact hk _ _ he | exact he
    case round l f tmps assign body => exact h.mono fun e w' he => by cases e <;> first | exact hk _ _ he | exact he
  | halt x w => simp only [uponW] at h
theorem opW_mono {P : Program} {ops : Array Oper} {i : Nat} {a : Act} {w : World} {K K' : Act → World → Prop} (hk : ∀ a w, K a w → K' a w) (h : opW P ops i K a w) : opW P ops i K' a w := by
  unfold opW at *
  split
  · rename_i e; simp only [e] at h; exact hk _ _ h
  · rename_i o e
    simp only [e] at h
    split
    · rename_i hw; rw [if_pos hw] at h; exact uponW_mono hk h
    · rename_i hw; rw [if_neg hw] at h; exact hk _ _ h
/-- The fence of a function's frame, and of a round's. -/
def fen : Option Nat → Fence
  | none => Fence.wide
  | some l => Fence.wide.inRound l
theorem fen_fn (ρ : Option Nat) (f : FuncId) : (fen ρ).fn f := by cases ρ <;> trivial
theorem fen_depth (ρ : Option Nat) : (fen ρ).depth = none := by cases ρ <;> rfl
theorem fen_calls {ρ : Option Nat} {P : Program} {f : FuncId} {args : Array Value} {w : World} {R : Ending → World → Prop} (h : Calls P f args w R) : CallsIn (fen ρ) 0 P f args w R := by
  cases ρ with
  | none => exact callsIn_wide.2 h
  | some l => exact (callsIn_wide (n := 0)).2 h
theorem fen_round_in {ρ : Option Nat} {P : Program} {l : Nat} {f : FuncId} {tmps : Array Value} {assign body : Code} {w : World} {R : Ending → World → Prop} (h : RoundIn Fence.wide 0 P l f tmps assign body w R) : RoundIn (fen ρ) 0 P l f tmps assign body w R := by
  cases ρ with
  | none => exact h
  | some l => exact h
theorem opW_in {ρ : Option Nat} {P : Program} {ops : Array Oper} {Q : Exit → Act → World → Prop} {i : Nat} {a : Act} {w : World} {K : Act → World → Prop} (h : opW P ops i K a w) : wpOpIn (fen ρ) 0 P ops Q i K a w := by
  unfold opW at h
  unfold wpOpIn
  split
  · rename_i e; simp only [e] at h; exact h
  · rename_i o e
    simp only [e] at h
    split
    · rename_i hw
      rw [if_pos hw] at h
      unfold Oper.wpIn
      refine ⟨fun f _ => fen_fn ρ f, ?_⟩
      have hd : Oper.semAt (fen ρ).round a.eval o = execOp a.eval o := by
        refine Oper.semAt_eq _ _ _ fun c ec => ?_
        have : execOp a.eval o = (do pure (Next.defer (← resolve a.eval c o.type)) : Sem Next) := by simp only [execOp, ec]
        rw [this, Sem.run_bind] at h
        generalize (resolve a.eval c o.type).run P w = r at h
        cases r with
        | ok d w' => simp only [Result.andThen_ok, Sem.run_pure, uponW] at h
        | halt x w' => simp only [Result.andThen, uponW] at h
      rw [hd]
      generalize (execOp a.eval o).run P w = r at h
      have hn : (fen ρ).depth.isSome = true → 1 ≤ 0 := fun hs => by rw [fen_depth] at hs; cases hs
      cases r with
      | ok n w =>
        cases n <;> simp only [uponW, Oper.uponIn] at h ⊢
        case value v => exact h
        case skip => exact h
        case enter f args => exact ⟨hn, (fen_calls h).mono fun e w' he => by cases e <;> first | exact he | exact he.elim⟩
        case round l f tmps assign body => exact ⟨hn, (fen_round_in h).mono fun e w' he => by cases e <;> first | exact he | exact he.elim⟩
      | halt x w => simp only [uponW] at h
    · rename_i hw; rw [if_neg hw] at h; exact ⟨fun f _ => fen_fn ρ f, h⟩
theorem opsW_in {ρ : Option Nat} {P : Program} {ops : Array Oper} {Q : Exit → Act → World → Prop} : ∀ {l : List Nat} {a : Act} {w : World}, opsW P ops (Q .normal) l a w → wpOpsIn (fen ρ) 0 P ops Q l a w
  | [], a, w, h => h
  | i :: r, a, w, h => by
    rw [wpOpsIn_cons]
    exact opW_in (opW_mono (fun a w h => opsW_in h) h)

def OpsT (P : Program) (ops : Array Oper) (Q : Exit → Act → World → Prop) (N : FN) (l : List Nat) (S : Sl) (w : World) : Prop :=
  ∀ a, Fr N S a → opsW P ops (Q .normal) l a w
def CodT (ρ : Option Nat) (P : Program) (c : Code) (Q : Exit → Act → World → Prop) (N : FN) (S : Sl) (w : World) : Prop :=
  ∀ a, Fr N S a → c.wpIn (fen ρ) 0 P Q a w
/-- What follows, asked in a frame told by its slots. -/
def Qn (Q : Exit → Act → World → Prop) (e : Exit) (N : FN) (S : Sl) (w : World) : Prop := ∀ a, Fr N S a → Q e a w

theorem CodT.keep (l : List Nat) (e : keep S l = S') (h : CodT ρ P c Q N S' w) : CodT ρ P c Q N S w := fun a ha => h a (ha.keep l e)
theorem OpsT.keep (k : List Nat) (e : keep S k = S') (h : OpsT P ops Q N l S' w) : OpsT P ops Q N l S w := fun a ha => h a (ha.keep k e)
theorem Qn.keep {e : Exit} (l : List Nat) (he : keep S l = S') (h : Qn Q e N S' w) : Qn Q e N S w := fun a ha => h a (ha.keep l he)

theorem CodT.region {id : Nat} {n : Nat} (hn : ops.size = n) (h : OpsT P ops Q N (List.range n) S w) : CodT ρ P (.region id ops false) Q N S w :=
  fun a ha => wpIn_region (by rw [hn]; exact opsW_in (h a ha))
theorem CodT.seq (h : CodT ρ P x (Exit.then (fun a w => y.wpIn (fen ρ) 0 P Q a w) Q) N S w) : CodT ρ P (.seq x y) Q N S w := fun a ha => wpIn_seq (h a ha)
/-- The ways through x meet again. -/
theorem CodT.meet (J : Act → World → Prop) (h : CodT ρ P x (Exit.then J Q) N S w) (k : ∀ a w, J a w → y.wpIn (fen ρ) 0 P Q a w) : CodT ρ P (.seq x y) Q N S w :=
  fun a ha => wpIn_seq (wpIn_mono (h a ha) fun e a' w' q => by cases e <;> first | exact k a' w' q | exact q)
theorem OpsT.done (h : Qn Q .normal N S w) : OpsT P ops Q N [] S w := fun a ha => h a ha
theorem Qn.then (h : CodT ρ P y Q N S w) : Qn (Exit.then (fun a w => y.wpIn (fen ρ) 0 P Q a w) Q) .normal N S w := fun a ha => h a ha
theorem Qn.thenJ {J : Act → World → Prop} (h : ∀ a, Fr N S a → J a w) : Qn (Exit.then J Q) .normal N S w := fun a ha => h a ha
theorem CodT.of (h : CodT ρ P c Q N S w) (ha : Fr N S a) : c.wpIn (fen ρ) 0 P Q a w := h a ha
theorem Qn.ret_then {K : Act → World → Prop} (h : Qn Q .ret N S w) : Qn (Exit.then K Q) .ret N S w := fun a ha => h a ha
theorem Qn.exit_then {K : Act → World → Prop} {k : Nat} (h : Qn Q (.exit k) N S w) : Qn (Exit.then K Q) (.exit k) N S w := fun a ha => h a ha
theorem Qn.block {id : Nat} (h : Qn Q .normal N S w) : Qn (Exit.inBlock id Q) (.exit id) N S w := fun a ha => by
  simp only [Exit.inBlock, if_true]; exact h a ha
theorem Qn.block_ret {id : Nat} (h : Qn Q .ret N S w) : Qn (Exit.inBlock id Q) .ret N S w := fun a ha => h a ha
theorem Qn.block_normal {id : Nat} (h : Qn Q .normal N S w) : Qn (Exit.inBlock id Q) .normal N S w := fun a ha => h a ha
theorem CodT.block {id : Nat} (h : CodT ρ P c (Exit.inBlock id Q) N S w) : CodT ρ P (.block id c) Q N S w := fun a ha => wpIn_block (h a ha)
theorem CodT.skip (h : Qn Q .normal N S w) : CodT ρ P .skip Q N S w := fun a ha => wpIn_skip (h a ha)
theorem CodT.exit {id : Nat} (h : Qn Q (.exit id) N S w) : CodT ρ P (.exit id) Q N S w := fun a ha => wpIn_exit (h a ha)
theorem CodT.ret (h : Qn Q .ret N S w) : CodT ρ P .ret Q N S w := fun a ha => wpIn_ret (h a ha)
theorem CodT.yes {o : Operand} (e : Cen.ev S o = some (.bool true)) (h : CodT ρ P x Q N S w) : CodT ρ P (.cond o x y) Q N S w :=
  fun a ha => wpIn_cond_true (ha.ev e) (h a ha)
theorem CodT.no {o : Operand} (e : Cen.ev S o = some (.bool false)) (h : CodT ρ P y Q N S w) : CodT ρ P (.cond o x y) Q N S w :=
  fun a ha => wpIn_cond_false (ha.ev e) (h a ha)
theorem CodT.yes' {o : Operand} {b : Bool} (e : Cen.ev S o = some (.bool b)) (hb : b = true) (h : CodT ρ P x Q N S w) : CodT ρ P (.cond o x y) Q N S w :=
  CodT.yes (by rw [e, hb]) h
theorem CodT.no' {o : Operand} {b : Bool} (e : Cen.ev S o = some (.bool b)) (hb : b = false) (h : CodT ρ P y Q N S w) : CodT ρ P (.cond o x y) Q N S w :=
  CodT.no (by rw [e, hb]) h

/-- A loop, by a relation with a number of rounds that are left. -/
theorem wp_loopN (I : Nat → Act → World → Prop) (round : ∀ k a w, I k a w → c.wpIn (fen ρ) 0 P (Exit.then (fun a' w' => ∃ j, j < k ∧ I j a' w') Q) a w) :
    ∀ k a w, I k a w → (Code.loop c).wpIn (fen ρ) 0 P Q a w := by
  intro k0 a0 w0 h0 b k cs hro hb hr
  have key : ∀ n a w, I n a w → ∃ e a' w', Q e a' w' ∧ ArrivesIn (Machine.fenced P (fen ρ)) P (lone (b.atR a (.code c :: .inLoop c :: k)) cs w) b k cs e a' w' := by
    intro n
    induction n using Nat.strongRecOn with
    | _ n ih =>
      intro a w hI
      obtain ⟨e, a₁, w₁, hq, harr⟩ := round n a w hI b (.inLoop c :: k) cs hro hb hr
      cases e with
      | normal =>
        obtain ⟨j, hj, hI₁⟩ := hq
        obtain ⟨e₂, a₂, w₂, hq₂, harr₂⟩ := ih j hj a₁ w₁ hI₁
        exact ⟨e₂, a₂, w₂, hq₂, .of_steps (StepsIn.trans harr (.one (fenced_calm hb hr rfl) stepR_inLoop)) harr₂⟩
      | exit id => exact ⟨_, a₁, w₁, hq, .pass (x := .inLoop c) rfl (fun _ _ => .inl (by simp)) harr⟩
      | goto l => exact ⟨_, a₁, w₁, hq, .pass (x := .inLoop c) rfl (fun _ _ => .inl (by simp)) harr⟩
      | ret => exact ⟨_, a₁, w₁, hq, .pass (x := .inLoop c) rfl (fun _ _ => .inl (by simp)) harr⟩
      | panic ch => exact ⟨_, a₁, w₁, hq, .pass (x := .inLoop c) rfl (fun _ _ => .inl (by simp)) harr⟩
      | outgrown => exact ⟨_, a₁, w₁, hq, .pass (x := .inLoop c) rfl (fun _ _ => .inl (by simp)) harr⟩
  obtain ⟨e, a', w', hq, harr⟩ := key k0 a0 w0 h0
  exact ⟨e, a', w', hq, .of_steps (.one (fenced_calm hb hr rfl) stepR_loop) harr⟩

/-! ### one operation -/
/-- May the operation be carried out, as far as the slots tell? -/
def want (ops : Array Oper) (S : Sl) (o : Oper) : Option Bool :=
  match o.guard with
  | none => some true
  | some (j, b) => match ((ops[j]?).bind (·.dst)) with
    | some d => match lk S d with
      | some (.bool c) => some (c == b)
      | some (.tuple _) => some false
      | _ => none
    | none => none
theorem want_eq {o : Oper} {b : Bool} (h : want ops S o = some b) (ha : Fr N S a) (hd : ∀ j c d, o.guard = some (j, c) → (ops[j]?).bind (·.dst) = some d → d < N.n) :
    Region.wanted o (yielded ops a.tmps) = b := by
  unfold want at h
  unfold Region.wanted
  cases hg : o.guard with
  | none => simp only [hg] at h; cases h; rfl
  | some p =>
    obtain ⟨j, c⟩ := p
    simp only [hg] at h
    simp only
    cases hj : (ops[j]?).bind (·.dst) with
    | none => simp [hj] at h
    | some d =>
      simp only [hj] at h
      cases hl : lk S d with
      | none => simp [hl] at h
      | some v =>
        simp only [hl] at h
        cases v <;> simp only [Option.some.injEq, reduceCtorEq] at h
        case tuple vs =>
          have h1 := ha.look d _ hl
          have hlt : d < a.tmps.size := by rw [ha.size]; exact hd j c d hg hj
          have h2 : a.tmps[d]? = some (.tuple vs) := by
            simp only [Array.getD, hlt, dif_pos] at h1
            rw [Array.getElem?_eq_getElem hlt]
            exact congrArg some h1
          subst h
          simp only [yielded, hj, Option.bind_some, h2]
          cases c <;> rfl
        rename_i c'
        have h1 := ha.look d _ hl
        have hlt : d < a.tmps.size := by rw [ha.size]; exact hd j c d hg hj
        have h2 : a.tmps[d]? = some (.bool c') := by
          simp only [Array.getD, hlt, dif_pos] at h1
          rw [Array.getElem?_eq_getElem hlt]
          exact congrArg some h1
        subst h
        simp only [yielded, hj, Option.bind_some, h2]
        cases c <;> cases c' <;> rfl
/-- The slots behind an operation that yields v. -/
def putS (S : Sl) (d : Option Nat) (v : Value) : Sl := match d with | some d => (d, v) :: S | none => S
end

/-! ### a function -/
theorem calls_intro {P : Program} {f : FuncId} {fn : Func} {c : Code} {args : List Value} {w : World} {R : Ending → World → Prop} (n : Nat) (hf : P.funcs[f]? = some fn) (hb : fn.body = some c) (hN : fn.ntmps = n) (hn : Nat.ble args.length n = true)
    (h : CodT none P c (bodyPost P fn R) ⟨n, []⟩ (args0 0 args) w) : Calls P f args.toArray w R :=
  (callsIn_wide (n := 0)).1 (callsIn_of_wp (F := Fence.wide) (n := 0) hf hb trivial (by subst hN; exact h _ (Fr.enter fn.ntmps args (Nat.le_of_ble_eq_true hn))))
theorem post_ret {P : Program} {fn : Func} {R : Ending → World → Prop} {N : FN} {S : Sl} {w : World} {v : Value} (hr : ∀ a, Fr N S a → (results fn a.tmps).run P w = .ok v w) (h : R (.returned v) w) (hd : N.d = [] := by rfl) :
    Qn (bodyPost P fn R) .ret N S w := fun a ha => ⟨ha.df.trans hd, v, hr a ha, h⟩
theorem post_normal {P : Program} {fn : Func} {R : Ending → World → Prop} {N : FN} {S : Sl} {w : World} {v : Value} (hr : ∀ a, Fr N S a → (results fn a.tmps).run P w = .ok v w) (h : R (.returned v) w) (hd : N.d = [] := by rfl) :
    Qn (bodyPost P fn R) .normal N S w := fun a ha => ⟨ha.df.trans hd, v, hr a ha, h⟩
end Go.Cen
