/- Ranges over functions: the statement, a round, the function's end behind it. No program in sight. -/
import Derived.Test.YtjbofffabkimeaaCenLift6
import Derived.RangeFuncRecord
set_option linter.unusedVariables false
set_option linter.unusedSimpArgs false
namespace Go.Cen
variable {ρ : Option Nat} {P : Program} {Q : Exit → Act → World → Prop} {N : FN} {ops : Array Oper} {i : Nat} {S S' : Sl} {w w' w0 : World} {K : Sl → World → Prop} {Z Z' : Hp} {A B R : HP}
/-! ### facts, and what there is, within what is owned -/
/-! ### the loop's record -/
def mk (r : Nat) : Deferred := { target := .collected r, args := #[] }
def rec0 (fn : FuncId) (tmps : Array Value) (ps : Array Tmp) (assign body : Code) (r : Nat) (st : LoopState) : Obj := .loop { state := st, pending := none, fn, tmps, params := ps, assign, body, defers := r }
def YAt (P : Program) (l : Nat) (vs : List Value) (w : World) (R : Ending → World → Prop) : Prop :=
  ∃ f tmps assign body, (Instr.yield l vs.toArray).run P w = .ok (.round l f tmps assign body) w ∧ RoundIn Fence.wide 0 P l f tmps assign body w R
/-! ### the statement -/
/-! ### a round -/
def zipS : List Nat → List Value → Sl → Sl
  | t :: ts, v :: vs, S => zipS ts vs ((t, v) :: S)
  | _, _, S => S
theorem Fr.zip {n : Nat} : ∀ (ts : List Nat) (vs : List Value) {S : Sl} {a : Act}, (ts.all fun t => Nat.blt t n) = true → Fr ⟨n, []⟩ S a → Fr ⟨n, []⟩ (zipS ts vs S) { tmps := (ts.zip vs).foldl (fun tmps (p : Nat × Value) => tmps.setIfInBounds p.1 p.2) a.tmps, defers := [] }
  | [], vs, S, a, _, h => by cases vs <;> exact ⟨h.size, rfl, h.look⟩
  | t :: ts, [], S, a, _, h => ⟨h.size, rfl, h.look⟩
  | t :: ts, v :: vs, S, a, hl, h => by
    simp only [List.all_cons, Bool.and_eq_true] at hl
    have ht : t < n := Nat.lt_of_lt_of_le (Nat.lt_succ_self t) (Nat.le_of_ble_eq_true hl.1)
    exact Fr.zip ts vs hl.2 (h.put ht v)
theorem zip_foldl (ps : Array Tmp) (vs : List Value) (tmps : Array Value) : (ps.zip vs.toArray).foldl (fun tmps (t, a) => tmps.setIfInBounds t a) tmps = (ps.toList.zip vs).foldl (fun tmps (p : Nat × Value) => tmps.setIfInBounds p.1 p.2) tmps := by
  rw [← Array.foldl_toList]
  simp [Array.toList_zip]
/-- What is asked at a round's end: the body has come to its end; the record, busy, is owned. -/
def roundQ (P : Program) (w0 : World) (l : Nat) (fn : FuncId) (tmps : Array Value) (ps : Array Tmp) (assign body : Code) (r : Nat) (R' : Ending → World → Prop) : Exit → Act → World → Prop
  | .normal, _, w => ∃ Z R, Inv w0 Z w (star (pt l (rec0 fn tmps ps assign body r .busy)) R) ∧ ∀ w', Inv w0 Z w' (star (pt l (rec0 fn tmps ps assign body r .ready)) R) → R' (.returned (.bool true)) w'
  | _, _, _ => False
theorem YAt.round {fn : FuncId} {a : Act} {ps : Array Tmp} {assign body : Code} {r l : Nat} {vs : List Value} {R' : Ending → World → Prop} (hI : Inv w0 Z w (star (pt l (rec0 fn a.tmps ps assign body r .ready)) R)) (hsz : vs.length = ps.size) (ha : Fr N S a) (hps : (ps.toList.all fun t => Nat.blt t N.n) = true)
    (h : CodT (some l) P assign (Exit.then (fun a₁ w₁ => ∃ Z1 R1, Inv w0 Z1 w₁ (star (pt l (rec0 fn a.tmps ps assign body r .ready)) R1) ∧ ∀ w₂, Inv w0 Z1 w₂ (star (pt l (rec0 fn a.tmps ps assign body r .busy)) R1) → body.wpIn (fen (some l)) 0 P (roundQ P w0 l fn a.tmps ps assign body r R') a₁ w₂) (fun _ _ _ => False)) ⟨N.n, []⟩ (zipS ps.toList vs S) w) :
    YAt P l vs w R' := by
  have hb := hI.block
  refine ⟨_, _, _, _, run_yield hb (by simpa using hsz), ?_⟩
  refine roundIn_of_wpIn (F := Fence.wide) trivial ?_
  simp only
  rw [zip_foldl]
  have hf : Fr ⟨N.n, []⟩ S { tmps := a.tmps, defers := [] } := ⟨ha.size, rfl, ha.look⟩
  refine wpIn_mono (h _ (Fr.zip (a := { tmps := a.tmps, defers := [] }) ps.toList vs hps hf)) fun e a₁ w₁ hq => ?_
  cases e <;> first | exact hq.elim | skip
  obtain ⟨Z1, R1, hI1, hk⟩ := hq
  have hb1 := hI1.block
  refine ⟨_, run_beginRound hb1 rfl, wpIn_mono (hk _ (hI1.put (o' := rec0 fn a.tmps ps assign body r .busy) (World.putObj_heap_same (Array.getElem?_eq_some_iff.1 hb1).1) (fun k hk => World.putObj_heap_other hk) rfl rfl rfl)) fun e a₂ w₂ hq => ?_⟩
  cases e <;> first | exact hq.elim | skip
  obtain ⟨Z2, R2, hI2, hk2⟩ := hq
  have hb2 := hI2.block
  exact ⟨_, _, run_endRound none hb2, hk2 _ (hI2.put (o' := rec0 fn a.tmps ps assign body r .ready) (World.putObj_heap_same (Array.getElem?_eq_some_iff.1 hb2).1) (fun k hk => World.putObj_heap_other hk) rfl rfl rfl)⟩
theorem Qn.round {fn : FuncId} {tmps : Array Value} {ps : Array Tmp} {assign body : Code} {r l : Nat} {R' : Ending → World → Prop} (hI : Inv w0 Z w (star (pt l (rec0 fn tmps ps assign body r .busy)) R))
    (h : ∀ w', Inv w0 Z w' (star (pt l (rec0 fn tmps ps assign body r .ready)) R) → R' (.returned (.bool true)) w') : Qn (roundQ P w0 l fn tmps ps assign body r R') .normal N S w := fun a ha => ⟨Z, R, hI, h⟩

/-! ### what is owned, in groups -/
/-! ### a function that has such a loop -/
end Go.Cen
