/- One operation, in any order that a region leaves open. No program in sight. -/
import Derived.Test.YtjbofffabkimeaaCenFr
import Derived.OrdersHeld
set_option linter.unusedVariables false
set_option linter.unusedSimpArgs false
namespace Go.Cen

/-! ### what an operation does, off the slots -/
def rho (S : Sl) (x : Operand) : Value := match ev S x with | some v => v | none => undef
def isSel : Op → Bool | .select _ _ => true | _ => false
def knows (S : Sl) (o : Op) : Bool := !isSel o && o.operands.toList.all fun x => match ev S x with | some _ => true | none => false
/-- A computation that asks nothing of the world. -/
def pureVal {α : Type} (P : Program) : Sem α → Option α
  | .pure a => some a
  | .program k => pureVal P (k P)
  | .mark _ k => pureVal P k
  | _ => none
theorem pureVal_run {α : Type} {P : Program} : ∀ {s : Sem α} {x : α}, pureVal P s = some x → ∀ w, s.run P w = .ok x w := by
  intro s
  induction s with
  | pure a => intro x h w; cases h; rfl
  | program k ih => intro x h w; exact ih P h w
  | mark m k ih => intro x h w; exact ih h w
  | _ => intro x h; cases h
variable {P : Program} {Q : Exit → Act → World → Prop} {ρ : Option Nat} {N : FN} {ops : Array Oper} {S S' : Sl} {a : Act} {w w' : World} {K : Sl → World → Prop} {i : Nat}

theorem Fr.exec {o : Oper} (ha : Fr N S a) (hk : knows S o.op = true) : execOp a.eval o = execOp (rho S) o := by
  simp only [knows, Bool.and_eq_true, Bool.not_eq_true'] at hk
  refine execOp_congr o (fun cs b e => by rw [e] at hk; simp [isSel] at hk) fun x hx => ?_
  have := List.all_eq_true.1 hk.2 x (by simpa using hx)
  simp only [rho]
  cases e : Cen.ev S x with
  | none => simp [e] at this
  | some v => exact ha.ev e
/-- The operation that is carried out, if the slots tell it; none: it is not carried out, or it can't be told. -/
def inN (N : FN) : Option Nat → Bool | none => true | some d => Nat.blt d N.n
def gdst (ops : Array Oper) (o : Oper) : Option Nat := match o.guard with | none => none | some (j, _) => (ops[j]?).bind (·.dst)
def sp (N : FN) (ops : Array Oper) (S : Sl) (i : Nat) : Option Oper :=
  match ops[i]? with
  | none => none
  | some o => match want ops S o with
    | some true => bif inN N o.dst && inN N (gdst ops o) && knows S o.op then some o else none
    | _ => none
def sp0 (N : FN) (ops : Array Oper) (S : Sl) (i : Nat) : Option (Option Nat) :=
  match ops[i]? with
  | none => none
  | some o => match want ops S o with
    | some false => bif inN N o.dst && inN N (gdst ops o) then some o.dst else none
    | _ => none
theorem inN_lt {d : Nat} (h : inN N (some d) = true) : d < N.n := Nat.lt_of_lt_of_le (Nat.lt_succ_self d) (Nat.le_of_ble_eq_true h)
theorem want_reg {o : Oper} {b : Bool} (h : want ops S o = some b) (ha : Fr N S a) (hg : inN N (gdst ops o) = true) : Region.wanted o (yielded ops a.tmps) = b :=
  want_eq h ha fun j c d h1 h2 => by
    simp only [gdst, h1, h2] at hg
    exact inN_lt hg
theorem Fr.putD (h : Fr N S a) {d : Option Nat} (hd : inN N d = true) (v : Value) : Fr N (putS S d v) (a.put d v) := by
  cases d with
  | none => exact h
  | some d => exact h.put (inN_lt hd) v
theorem sp_spec {o : Oper} (h : sp N ops S i = some o) : ops[i]? = some o ∧ want ops S o = some true ∧ inN N o.dst = true ∧ inN N (gdst ops o) = true ∧ knows S o.op = true := by
  unfold sp at h
  cases e : ops[i]? with
  | none => simp [e] at h
  | some o' =>
    simp only [e] at h
    split at h
    · rename_i hw
      cases hb : inN N o'.dst && inN N (gdst ops o') && knows S o'.op with
      | false => simp [hb] at h
      | true =>
        simp only [hb, cond_true, Option.some.injEq] at h
        subst h
        simp only [Bool.and_eq_true] at hb
        exact ⟨rfl, hw, hb.1.1, hb.1.2, hb.2⟩
    · cases h
theorem sp0_spec {d : Option Nat} (h : sp0 N ops S i = some d) : ∃ o, ops[i]? = some o ∧ want ops S o = some false ∧ o.dst = d ∧ inN N o.dst = true ∧ inN N (gdst ops o) = true := by
  unfold sp0 at h
  cases e : ops[i]? with
  | none => simp [e] at h
  | some o' =>
    simp only [e] at h
    split at h
    · rename_i hw
      cases hb : inN N o'.dst && inN N (gdst ops o') with
      | false => simp [hb] at h
      | true =>
        simp only [hb, cond_true, Option.some.injEq] at h
        simp only [Bool.and_eq_true] at hb
        exact ⟨o', rfl, hw, h, hb.1, hb.2⟩
    · cases h

/-- Number i comes up, in a frame of these slots: what follows is asked in K. -/
def Does (P : Program) (Q : Exit → Act → World → Prop) (N : FN) (ops : Array Oper) (i : Nat) (S : Sl) (w : World) (K : Sl → World → Prop) : Prop :=
  ∀ (a : Act) (L : Act → World → Prop), Fr N S a → (∀ S' a' w', K S' w' → Fr N S' a' → L a' w') → opW P ops i L a w
theorem Does.yield {o : Oper} (hs : sp N ops S i = some o) {v : Value} (hr : (execOp (rho S) o).run P w = .ok (.value v) w') (h : K (putS S o.dst v) w') : Does P Q N ops i S w K := by
  intro a L ha hL
  obtain ⟨h1, h2, h3, h4, h5⟩ := sp_spec hs
  simp only [opW, h1, want_reg h2 ha h4, if_true]
  simp only [ha.exec h5, hr, uponW]
  exact hL _ _ _ h (ha.putD h3 v)
theorem Does.skip {o : Oper} (hs : sp N ops S i = some o) (hr : (execOp (rho S) o).run P w = .ok .skip w') (h : K (putS S o.dst undef) w') : Does P Q N ops i S w K := by
  intro a L ha hL
  obtain ⟨h1, h2, h3, h4, h5⟩ := sp_spec hs
  simp only [opW, h1, want_reg h2 ha h4, if_true]
  simp only [ha.exec h5, hr, uponW]
  exact hL _ _ _ h (ha.putD h3 undef)
theorem Does.off {d : Option Nat} (hs : sp0 N ops S i = some d) (h : K (putS S d undef) w) : Does P Q N ops i S w K := by
  intro a L ha hL
  obtain ⟨o, h1, h2, h3, h4, h5⟩ := sp0_spec hs
  simp only [opW, h1, want_reg h2 ha h5, Bool.false_eq_true, if_false]
  subst h3
  exact hL _ _ _ h (ha.putD h4 undef)
theorem Does.enter {o : Oper} (hs : sp N ops S i = some o) {n : FuncId} {vs : Array Value} {R : Ending → World → Prop} (hr : (execOp (rho S) o).run P w = .ok (.enter n vs) w')
    (hc : Calls P n vs w' R) (h : ∀ e w'', R e w'' → ∃ v, e = .returned v ∧ K (putS S o.dst v) w'') : Does P Q N ops i S w K := by
  intro a L ha hL
  obtain ⟨h1, h2, h3, h4, h5⟩ := sp_spec hs
  simp only [opW, h1, want_reg h2 ha h4, if_true]
  simp only [ha.exec h5, hr, uponW]
  refine hc.mono fun e w'' hR => ?_
  obtain ⟨v, rfl, hk⟩ := h e w'' hR
  exact hL _ _ _ hk (ha.putD h3 v)
theorem Does.round {o : Oper} (hs : sp N ops S i = some o) {l : Nat} {f : FuncId} {tmps : Array Value} {assign body : Code} {R : Ending → World → Prop} (hr : (execOp (rho S) o).run P w = .ok (.round l f tmps assign body) w')
    (hc : RoundIn Fence.wide 0 P l f tmps assign body w' R) (h : ∀ e w'', R e w'' → ∃ v, e = .returned v ∧ K (putS S o.dst v) w'') : Does P Q N ops i S w K := by
  intro a L ha hL
  obtain ⟨h1, h2, h3, h4, h5⟩ := sp_spec hs
  simp only [opW, h1, want_reg h2 ha h4, if_true]
  simp only [ha.exec h5, hr, uponW]
  refine hc.mono fun e w'' hR => ?_
  obtain ⟨v, rfl, hk⟩ := h e w'' hR
  exact hL _ _ _ hk (ha.putD h3 v)

/-! ### in the order of the text -/
theorem OpsT.cons {r : List Nat} (h : Does P Q N ops i S w fun S' w' => OpsT P ops Q N r S' w') : OpsT P ops Q N (i :: r) S w := fun a ha => h a _ ha fun S' a' w' hk ha' => hk a' ha'
/-- Operations that ask nothing of the world, one behind the other. -/
def pstep (P : Program) (N : FN) (ops : Array Oper) (S : Sl) (i : Nat) : Option Sl :=
  match sp N ops S i with
  | some o => match pureVal P (execOp (rho S) o) with
    | some (.value v) => some (putS S o.dst v)
    | _ => none
  | none => match sp0 N ops S i with
    | some d => some (putS S d undef)
    | none => none
def psteps (P : Program) (N : FN) (ops : Array Oper) : List Nat → Sl → Option Sl
  | [], S => some S
  | i :: r, S => match pstep P N ops S i with | some S' => psteps P N ops r S' | none => none
theorem Does.pure (h : pstep P N ops S i = some S') (hk : K S' w) : Does P Q N ops i S w K := by
  unfold pstep at h
  cases hs : sp N ops S i with
  | some o =>
    simp only [hs] at h
    split at h
    · rename_i v hv
      cases h
      exact Does.yield hs (pureVal_run hv w) hk
    · cases h
  | none =>
    simp only [hs] at h
    split at h
    · rename_i d hd
      cases h
      exact Does.off hd hk
    · cases h
def kept (ks : List Nat) : Option Sl → Option Sl | some S => some (keep S ks) | none => none
theorem OpsT.pures (is ks : List Nat) {r : List Nat} (e : kept ks (psteps P N ops is S) = some S') (h : OpsT P ops Q N r S' w) : OpsT P ops Q N (is ++ r) S w := by
  cases e0 : psteps P N ops is S with
  | none => rw [e0] at e; cases e
  | some S1 =>
    rw [e0] at e
    simp only [kept, Option.some.injEq] at e
    have h1 : OpsT P ops Q N r S1 w := OpsT.keep ks e h
    clear h e
    revert S
    induction is with
    | nil => intro S e0; simp only [psteps, Option.some.injEq] at e0; subst e0; exact h1
    | cons i is ih =>
      intro S e0
      simp only [psteps] at e0
      split at e0
      · rename_i S2 h2
        exact OpsT.cons (Does.pure h2 (ih e0))
      · cases e0

/-! ### in any order -/
/-- Nobody who has come up waits for one who has not. -/
def closedB (ops : Array Oper) (listed : Array Bool) : Bool :=
  (List.range ops.size).all fun j => !listed.getD j false || ((ops[j]?).map (·.after.all fun e => !Region.binds .any e || listed.getD e.on false)).getD true
def Closed (ops : Array Oper) (listed : Array Bool) : Prop := ∀ j o, ops[j]? = some o → listed.getD j false = true → ∀ e ∈ o.after, Region.binds .any e = true → listed.getD e.on false = true
theorem closedB_spec {listed : Array Bool} (h : closedB ops listed = true) : Closed ops listed := fun j o ho hj e he hb => by
  have hlt : j < ops.size := (Array.getElem?_eq_some_iff.1 ho).1
  have := List.all_eq_true.1 h j (List.mem_range.2 hlt)
  simp only [hj, Bool.not_true, Bool.false_or, ho, Option.map_some, Option.getD_some] at this
  have := (Array.all_eq_true_iff_forall_mem.1 this) e he
  simpa [hb] using this
theorem Closed.set {listed : Array Bool} {i : Nat} (h : Closed ops listed) (hi : i ∈ Region.ready .any ops listed) : Closed ops (listed.setIfInBounds i true) := fun j o ho hj e he hb => by
  by_cases hij : i = j
  · subst hij
    obtain ⟨_, o', ho', hall⟩ := mem_ready.1 hi
    have : o = o' := Option.some.inj (ho.symm.trans ho')
    subst this
    exact getD_set_true (hall e he hb)
  · rw [getD_set_ne false hij] at hj
    exact getD_set_true (h j o ho hj e he hb)
/-- t waits for i, over at most so many others. -/
def reach (ops : Array Oper) : Nat → Nat → Nat → Bool
  | 0, _, _ => false
  | f + 1, t, i => match ops[t]? with
    | some o => o.after.toList.any fun e => Region.binds .any e && (Nat.beq e.on i || reach ops f e.on i)
    | none => false
theorem reach_listed {listed : Array Bool} (hc : Closed ops listed) : ∀ (f t i : Nat), reach ops f t i = true → listed.getD t false = true → listed.getD i false = true
  | 0, _, _, h, _ => by cases h
  | f + 1, t, i, h, hl => by
    simp only [reach] at h
    split at h
    · rename_i o ho
      obtain ⟨e, he, h2⟩ := List.any_eq_true.1 h
      simp only [Bool.and_eq_true, Bool.or_eq_true] at h2
      have h3 := hc t o ho hl e (by simpa using he) h2.1
      rcases h2.2 with h4 | h4
      · rw [Nat.eq_of_beq_eq_true h4] at h3; exact h3
      · exact reach_listed hc f _ i h4 h3
    · cases h
theorem reach_ready {listed : Array Bool} (hc : Closed ops listed) {f t i : Nat} (h : reach ops f t i = true) (ht : t ∈ Region.ready .any ops listed) : listed.getD i false = true := by
  cases f with
  | zero => cases h
  | succ f =>
    simp only [reach] at h
    obtain ⟨_, o', ho', hall⟩ := mem_ready.1 ht
    simp only [ho'] at h
    obtain ⟨e, he, h2⟩ := List.any_eq_true.1 h
    simp only [Bool.and_eq_true, Bool.or_eq_true] at h2
    have h3 := hall e (by simpa using he) h2.1
    rcases h2.2 with h4 | h4
    · rw [Nat.eq_of_beq_eq_true h4] at h3; exact h3
    · exact reach_listed hc f _ i h4 h3
theorem unlisted_false {listed : Array Bool} {i : Nat} (h : listed.getD i true = false) : listed.getD i false = false := by
  rcases Nat.lt_or_ge i listed.size with h' | h'
  · simp [h'] at h ⊢; exact h
  · simp [Array.getElem?_eq_none h'] at h

theorem opW_yields {C : World → Prop} {o : Oper} {v : Value} (hi : ops[i]? = some o) (hy : YieldsIf P ops C o v a)
    {K : Act → World → Prop} {w : World} (hS : C w) (h : K (a.put o.dst v) w) : opW P ops i K a w := by
  unfold Cen.opW
  simp only [hi]
  rcases hy with ⟨hw, hv⟩ | ⟨hw, rfl⟩
  · simp only [hw, if_true, hv w hS, uponW]; exact h
  · simp only [hw, Bool.false_eq_true, if_false]; exact h
theorem opW_putIf {C : World → Prop} {j : Nat} {oi oj : Oper} {v : Value} (hj : ops[j]? = some oj) (hap : oi.apart ops oj = true)
    (hsi : ∀ cs b, oi.op ≠ .select cs b) (hsj : ∀ cs b, oj.op ≠ .select cs b) {K : Act → World → Prop} {a : Act} {w : World}
    (hy : YieldsIf P ops C oi v a) (h : opW P ops j K (a.put oi.dst v) w) :
    opW P ops j (fun a' w' => YieldsIf P ops C oi v a' ∧ K (a'.put oi.dst v) w') a w := by
  obtain ⟨h1, h2, h3⟩ := Oper.apart_spec hap
  have keep : ∀ (a : Act), YieldsIf P ops C oi v a → ∀ u, YieldsIf P ops C oi v (a.put oj.dst u) := fun a hy u =>
    hy.of_same (execOp_put oi hsi a oj.dst u h3) (wanted_put oi a oj.dst u h3)
  unfold opW at *
  simp only [hj] at *
  rw [wanted_put oj a oi.dst v h1] at h
  split
  · rename_i hw
    simp only [hw, if_true] at h
    rw [execOp_put oj hsj a oi.dst v h1] at h
    generalize (execOp a.eval oj).run P w = r at *
    cases r with
    | ok n w' =>
      cases n <;> simp only [uponW] at h ⊢
      case value u => exact ⟨keep a hy u, by rw [← Act.put_comm a v u h2]; exact h⟩
      case skip => exact ⟨keep a hy _, by rw [← Act.put_comm a v undef h2]; exact h⟩
      case enter f args =>
        refine Calls.mono h fun e w'' he => ?_
        cases e with
        | returned u => exact ⟨keep a hy u, by rw [← Act.put_comm a v u h2]; exact he⟩
        | panicked c => exact he
        | outgrown => exact he
      case round l f tmps assign body =>
        refine RoundIn.mono h fun e w'' he => ?_
        cases e with
        | returned u => exact ⟨keep a hy u, by rw [← Act.put_comm a v u h2]; exact he⟩
        | panicked c => exact he
        | outgrown => exact he
    | halt x w' => simp only [uponW] at h
  · rename_i hw
    simp only [hw] at h
    exact ⟨keep a hy _, by rw [← Act.put_comm a v undef h2]; exact h⟩

def gm (P : Program) (ops : Array Oper) (Q : Exit → Act → World → Prop) (C : World → Prop) (ts : List Nat) : Nat → Array Bool → Act → World → Prop
  | 0, listed, a, w => Region.ready .any ops listed = [] ∧ Q .normal a w
  | f + 1, listed, a, w => (Region.ready .any ops listed = [] → Q .normal a w) ∧
    ∀ i ∈ Region.ready .any ops listed, opW P ops i (fun a' w' => (i ∉ ts → C w → C w') ∧ gm P ops Q C ts f (listed.setIfInBounds i true) a' w') a w
variable {C : World → Prop} {ts : List Nat}
theorem gm_any : ∀ (f : Nat) (listed : Array Bool) (a : Act) (w : World), gm P ops Q C ts f listed a w → wpAnyIn (fen ρ) 0 P .any ops Q f listed a w
  | 0, _, _, _, h => h
  | f + 1, _, _, _, h => ⟨h.1, fun i hi => opW_in (opW_mono (fun a' w' h' => gm_any f _ a' w' h'.2) (h.2 i hi))⟩
theorem not_on {listed : Array Bool} {i j : Nat} {oj : Oper} (hi : i ∈ Region.ready .any ops listed) (hj : j ∈ Region.ready .any ops listed) (hoj : ops[j]? = some oj) :
    ∀ e ∈ oj.after, Region.binds .any e = true → e.on ≠ i := fun e he hb heq => by
  obtain ⟨_, o', ho', hall⟩ := mem_ready.1 hj
  have : oj = o' := Option.some.inj (hoj.symm.trans ho')
  subst this
  have h1 := hall e he hb
  rw [heq, unlisted_false (mem_ready.1 hi).1] at h1
  cases h1
/-- What yields its value in every world that meets C, and for whom all wait that may break C, may be taken first. -/
theorem gm_first {i : Nat} {oi : Oper} {v : Value} {f0 : Nat} (hi : ops[i]? = some oi) (hsel : ∀ (j : Nat) (o : Oper) cs b, ops[j]? = some o → o.op ≠ .select cs b) (hts : ∀ t ∈ ts, reach ops f0 t i = true) :
    ∀ (f : Nat) (listed : Array Bool) (a : Act) (w : World), Closed ops listed →
      (∀ j oj, ops[j]? = some oj → j ≠ i → listed.getD j true = false → (∀ e ∈ oj.after, Region.binds .any e = true → e.on ≠ i) → oi.apart ops oj = true) →
      i ∈ Region.ready .any ops listed → YieldsIf P ops C oi v a → C w →
      gm P ops Q C ts f (listed.setIfInBounds i true) (a.put oi.dst v) w → gm P ops Q C ts (f + 1) listed a w := by
  intro f
  induction f with
  | zero =>
    intro listed a w hc _ hr hy hS H
    refine ⟨fun h => (by rw [h] at hr; cases hr), fun j hj => ?_⟩
    by_cases hji : j = i
    · subst hji; exact opW_yields hi hy hS ⟨fun _ _ => hS, H⟩
    · have := ready_mono hj hji
      rw [H.1] at this
      cases this
  | succ f ih =>
    intro listed a w hc hfree hr hy hS H
    refine ⟨fun h => (by rw [h] at hr; cases hr), fun j hj => ?_⟩
    by_cases hji : j = i
    · subst hji; exact opW_yields hi hy hS ⟨fun _ _ => hS, H⟩
    · have h1 := H.2 j (ready_mono hj hji)
      obtain ⟨hjun, oj, hoj, hall⟩ := mem_ready.1 hj
      have hjt : j ∉ ts := fun hm => by
        have := reach_ready hc (hts j hm) hj
        rw [unlisted_false (mem_ready.1 hr).1] at this
        cases this
      have h2 := opW_putIf hoj (hfree j oj hoj hji hjun (not_on hr hj hoj)) (fun cs b => hsel i oi cs b hi) (fun cs b => hsel j oj cs b hoj) hy h1
      have hfree' : ∀ k ok, ops[k]? = some ok → k ≠ i → (listed.setIfInBounds j true).getD k true = false →
          (∀ e ∈ ok.after, Region.binds .any e = true → e.on ≠ i) → oi.apart ops ok = true := fun k ok hk hki hun hno => by
        refine hfree k ok hk hki ?_ hno
        by_cases hjk : j = k
        · subst hjk; exact hjun
        · rw [getD_set_ne true hjk] at hun; exact hun
      refine opW_mono (fun a' w' h3 => ⟨fun _ => h3.2.1 hjt, ih (listed.setIfInBounds j true) a' w' (hc.set hj) hfree' (ready_mono hr (Ne.symm hji)) h3.1 (h3.2.1 hjt hS) ?_⟩) h2
      rw [Array.setIfInBounds_comm _ _ hji]
      exact h3.2.2
/-- What yields its value in whatever world may be taken first, whoever breaks C. -/
theorem gm_first' {i : Nat} {oi : Oper} {v : Value} (hi : ops[i]? = some oi) (hsel : ∀ (j : Nat) (o : Oper) cs b, ops[j]? = some o → o.op ≠ .select cs b) :
    ∀ (f : Nat) (listed : Array Bool) (a : Act) (w : World),
      (∀ j oj, ops[j]? = some oj → j ≠ i → listed.getD j true = false → (∀ e ∈ oj.after, Region.binds .any e = true → e.on ≠ i) → oi.apart ops oj = true) →
      i ∈ Region.ready .any ops listed → YieldsIf P ops (fun _ => True) oi v a →
      gm P ops Q C ts f (listed.setIfInBounds i true) (a.put oi.dst v) w → gm P ops Q C ts (f + 1) listed a w := by
  intro f
  induction f with
  | zero =>
    intro listed a w _ hr hy H
    refine ⟨fun h => (by rw [h] at hr; cases hr), fun j hj => ?_⟩
    by_cases hji : j = i
    · subst hji; exact opW_yields hi hy trivial ⟨fun _ h => h, H⟩
    · have := ready_mono hj hji
      rw [H.1] at this
      cases this
  | succ f ih =>
    intro listed a w hfree hr hy H
    refine ⟨fun h => (by rw [h] at hr; cases hr), fun j hj => ?_⟩
    by_cases hji : j = i
    · subst hji; exact opW_yields hi hy trivial ⟨fun _ h => h, H⟩
    · have h1 := H.2 j (ready_mono hj hji)
      obtain ⟨hjun, oj, hoj, hall⟩ := mem_ready.1 hj
      have h2 := opW_putIf hoj (hfree j oj hoj hji hjun (not_on hr hj hoj)) (fun cs b => hsel i oi cs b hi) (fun cs b => hsel j oj cs b hoj) hy h1
      have hfree' : ∀ k ok, ops[k]? = some ok → k ≠ i → (listed.setIfInBounds j true).getD k true = false →
          (∀ e ∈ ok.after, Region.binds .any e = true → e.on ≠ i) → oi.apart ops ok = true := fun k ok hk hki hun hno => by
        refine hfree k ok hk hki ?_ hno
        by_cases hjk : j = k
        · subst hjk; exact hjun
        · rw [getD_set_ne true hjk] at hun; exact hun
      refine opW_mono (fun a' w' h3 => ⟨h3.2.1, ih (listed.setIfInBounds j true) a' w' hfree' (ready_mono hr (Ne.symm hji)) h3.1 ?_⟩) h2
      rw [Array.setIfInBounds_comm _ _ hji]
      exact h3.2.2
/-- The same, in a frame told by its slots. -/
def GmT (P : Program) (ops : Array Oper) (Q : Exit → Act → World → Prop) (C : World → Prop) (ts : List Nat) (N : FN) (f : Nat) (listed : Array Bool) (S : Sl) (w : World) : Prop :=
  ∀ a, Fr N S a → gm P ops Q C ts f listed a w
def NoPanic (Q : Exit → Act → World → Prop) : Exit → Act → World → Prop
  | .panic _, _, _ => False
  | e, a, w => Q e a w
theorem NoPanic.imp {e : Exit} (h : NoPanic Q e a w) : Q e a w := by cases e <;> first | exact h | exact h.elim
/-- May be taken now: it may come up, and is apart from all that may come ahead of it. -/
def freeB (ops : Array Oper) (listed : Array Bool) (i : Nat) : Bool := Region.noSelect ops && Region.free .any ops listed i && (Region.ready .any ops listed).contains i && closedB ops listed
theorem freeB_spec {listed : Array Bool} (h : freeB ops listed i = true) : Region.noSelect ops = true ∧ Region.free .any ops listed i = true ∧ (Region.ready .any ops listed).contains i = true ∧ closedB ops listed = true := by
  simp only [freeB, Bool.and_eq_true] at h
  exact ⟨h.1.1.1, h.1.1.2, h.1.2, h.2⟩
variable {f : Nat} {listed listed' : Array Bool}
theorem yieldsIf_slots {o : Oper} {v : Value} {D : World → Prop} (hs : sp N ops S i = some o) (ha : Fr N S a) (hr : ∀ w, D w → (execOp (rho S) o).run P w = .ok (.value v) w) : YieldsIf P ops D o v a := by
  obtain ⟨h1, h2, h3, h4, h5⟩ := sp_spec hs
  exact .inl ⟨want_reg h2 ha h4, fun w hw => by rw [ha.exec h5]; exact hr w hw⟩
/-- A read: it yields its value wherever C holds. -/
theorem GmT.read {o : Oper} {v : Value} (f0 : Nat) (hf : freeB ops listed i = true) (hl : listed.setIfInBounds i true = listed') (hts : (ts.all fun t => reach ops f0 t i) = true) (hs : sp N ops S i = some o)
    (hr : ∀ w, C w → (execOp (rho S) o).run P w = .ok (.value v) w) (hC : C w) (h : GmT P ops (NoPanic Q) C ts N f listed' (putS S o.dst v) w) : GmT P ops (NoPanic Q) C ts N (f + 1) listed S w := fun a ha => by
  obtain ⟨h1, h2, h3, h4⟩ := freeB_spec hf
  obtain ⟨g1, g2, g3, g4, g5⟩ := sp_spec hs
  subst hl
  exact gm_first g1 (Region.noSelect_spec h1) (fun t ht => List.all_eq_true.1 hts t ht) f listed a w (closedB_spec h4) (Region.free_spec g1 h2) (by simpa using h3) (yieldsIf_slots hs ha hr) hC (h _ (ha.putD g3 v))
/-- Reckoning alone, of operations that nobody may break. -/
theorem GmT.pure (f0 : Nat) (hf : freeB ops listed i = true) (hl : listed.setIfInBounds i true = listed') (hts : (ts.all fun t => reach ops f0 t i) = true) (hC : C w)
    (hp : pstep P N ops S i = some S') (h : GmT P ops (NoPanic Q) C ts N f listed' S' w) : GmT P ops (NoPanic Q) C ts N (f + 1) listed S w := fun a ha => by
  obtain ⟨h1, h2, h3, h4⟩ := freeB_spec hf
  subst hl
  unfold pstep at hp
  cases hs : sp N ops S i with
  | some o =>
    simp only [hs] at hp
    split at hp
    · rename_i v hv
      cases hp
      obtain ⟨g1, g2, g3, g4, g5⟩ := sp_spec hs
      exact gm_first g1 (Region.noSelect_spec h1) (fun t ht => List.all_eq_true.1 hts t ht) f listed a w (closedB_spec h4) (Region.free_spec g1 h2) (by simpa using h3) (yieldsIf_slots hs ha fun w _ => pureVal_run hv w) hC (h _ (ha.putD g3 v))
    · cases hp
  | none =>
    simp only [hs] at hp
    split at hp
    · rename_i d hd
      cases hp
      obtain ⟨o, g1, g2, g3, g4, g5⟩ := sp0_spec hd
      subst g3
      exact gm_first g1 (Region.noSelect_spec h1) (fun t ht => List.all_eq_true.1 hts t ht) f listed a w (closedB_spec h4) (Region.free_spec g1 h2) (by simpa using h3) (.inr ⟨want_reg g2 ha g5, rfl⟩) hC (h _ (ha.putD g4 undef))
    · cases hp
/-- Reckoning alone, behind what breaks C. -/
theorem GmT.pure' (hf : freeB ops listed i = true) (hl : listed.setIfInBounds i true = listed')
    (hp : pstep P N ops S i = some S') (h : GmT P ops (NoPanic Q) C ts N f listed' S' w) : GmT P ops (NoPanic Q) C ts N (f + 1) listed S w := fun a ha => by
  obtain ⟨h1, h2, h3, h4⟩ := freeB_spec hf
  subst hl
  unfold pstep at hp
  cases hs : sp N ops S i with
  | some o =>
    simp only [hs] at hp
    split at hp
    · rename_i v hv
      cases hp
      obtain ⟨g1, g2, g3, g4, g5⟩ := sp_spec hs
      exact gm_first' g1 (Region.noSelect_spec h1) f listed a w (Region.free_spec g1 h2) (by simpa using h3) (yieldsIf_slots hs ha fun w _ => pureVal_run hv w) (h _ (ha.putD g3 v))
    · cases hp
  | none =>
    simp only [hs] at hp
    split at hp
    · rename_i d hd
      cases hp
      obtain ⟨o, g1, g2, g3, g4, g5⟩ := sp0_spec hd
      subst g3
      exact gm_first' g1 (Region.noSelect_spec h1) f listed a w (Region.free_spec g1 h2) (by simpa using h3) (.inr ⟨want_reg g2 ha g5, rfl⟩) (h _ (ha.putD g4 undef))
    · cases hp
/-- Just this one may come up. -/
theorem GmT.one {Q0 : Exit → Act → World → Prop} (hl : listed.setIfInBounds i true = listed') (hr : Region.ready .any ops listed = [i])
    (h : Does P Q0 N ops i S w fun S' w' => (ts.contains i = false → C w → C w') ∧ GmT P ops Q0 C ts N f listed' S' w') : GmT P ops Q0 C ts N (f + 1) listed S w := fun a ha => by
  refine ⟨fun h0 => (by rw [hr] at h0; cases h0), fun j hj => ?_⟩
  rw [hr] at hj
  simp only [List.mem_singleton] at hj
  subst hj
  subst hl
  exact h a _ ha fun S' a' w' hk ha' => ⟨fun hn => hk.1 (by simpa using hn), hk.2 a' ha'⟩
/-- Any of these may come up. -/
theorem GmT.several {Q0 : Exit → Act → World → Prop} (l : List Nat) (hr : Region.ready .any ops listed = l) (hne : l.isEmpty = false)
    (h : ∀ i ∈ l, Does P Q0 N ops i S w fun S' w' => (ts.contains i = false → C w → C w') ∧ GmT P ops Q0 C ts N f (listed.setIfInBounds i true) S' w') : GmT P ops Q0 C ts N (f + 1) listed S w := fun a ha => by
  refine ⟨fun h0 => (by rw [hr] at h0; subst h0; cases hne), fun j hj => ?_⟩
  rw [hr] at hj
  exact h j hj a _ ha fun S' a' w' hk ha' => ⟨fun hn => hk.1 (by simpa using hn), hk.2 a' ha'⟩
theorem GmT.keep {Q0 : Exit → Act → World → Prop} (l : List Nat) (e : keep S l = S') (h : GmT P ops Q0 C ts N f listed S' w) : GmT P ops Q0 C ts N f listed S w := fun a ha => h a (ha.keep l e)
theorem GmT.done (hr : Region.ready .any ops listed = []) (h : Qn Q .normal N S w) : GmT P ops (NoPanic Q) C ts N 0 listed S w := fun a ha => ⟨hr, h a ha⟩
theorem CodT.draw {id n : Nat} (C : World → Prop) (ts : List Nat) (hm : P.follows .mixedOrders = true) (hn : ops.size = n)
    (h : GmT P ops (NoPanic Q) C ts N n (Array.replicate n false) S { w with drawn := w.drawn + 1 }) : CodT ρ P (.region id ops true) Q N S w := fun a ha => by
  refine wpIn_mono (wpIn_region_any (Q := NoPanic Q) hm ?_) fun e a w => NoPanic.imp
  rw [hn]
  exact gm_any _ _ _ _ (h a ha)
end Go.Cen
