/- Maps of the call's own: what they hold, in the order in which it came. No program in sight. -/
import Derived.Test.YthdoklobbcedcacDoorCenOwn
import Derived.Laws.Tables
import Derived.LoopNIn
import Derived.MapKept
set_option linter.unusedVariables false
set_option linter.unusedSimpArgs false
namespace Go.Cen
open Go.MapKept (run_getObj_map run_setObj_map)
open Go.ChangeMaps (setBlock)
variable {α β : Type}
def fnd [DecidableEq α] (k : α) : List (α × Value × Nat) → Nat → Option (Nat × Value)
  | [], _ => none
  | p :: r, i => if k = p.1 then some (i, p.2.1) else fnd k r (i + 1)
def mEn (kv : α → Value) (p : α × Value × Nat) : MapEntry := ⟨kv p.1, p.2.1, p.2.2⟩
/-- keys that may be told apart -/
structure KeyT (P : Program) (kt : TypeId) [DecidableEq α] (kv : α → Value) : Prop where
  chk : ∀ (e : Bool) (k : α) (w : World), (Instr.checkKey e 10000 kt (kv k)).run P w = .ok () w
  find : ∀ (k : α) (l : List (α × Value × Nat)) (w : World), (Instr.findKey kt (kv k) (l.map (mEn kv))).run P w = .ok (fnd k l 0) w
  same : ∀ k, Instr.sameBits 10000 (kv k) (kv k) = true
theorem KeyT.now {P : Program} {kt : TypeId} [DecidableEq α] {kv : α → Value} {d : TypeDesc} (hu : P.underlying kt = some d) (chk : ∀ (e : Bool) (k : α) (w : World), (Instr.checkKey e 10000 kt (kv k)).run P w = .ok () w)
    (same : ∀ k, Instr.sameBits 10000 (kv k) (kv k) = true) (hn : ∀ a b, Instr.sameNow d (kv a) (kv b) = some (decide (a = b))) : KeyT P kt kv := by
  refine ⟨chk, fun k l w => ?_, same⟩
  have h : ∀ (l : List (α × Value × Nat)) i, Instr.findNow d (kv k) (l.map (mEn kv)) i = some (fnd k l i) := by
    intro l
    induction l with
    | nil => intro i; rfl
    | cons p r ih =>
      intro i
      simp only [List.map_cons, Instr.findNow, mEn, hn, fnd]
      by_cases e : k = p.1
      · simp [e]
      · simp only [e, decide_false, if_false]
        exact ih (i + 1)
  simp [Instr.findKey, run_underlying hu, h]
theorem KeyT.int {P : Program} {kt : TypeId} {q : IntKind} (hu : P.underlying kt = some (.int q)) : KeyT P kt (fun x : Int => Value.int q x) := by
  refine KeyT.now hu (fun e k w => ?_) (fun k => ?_) (fun a b => ?_)
  · have : ∀ n : Nat, (Instr.checkKey e (n + 1) kt (Value.int q k)).run P w = .ok () w := fun n => by simp [Instr.checkKey, run_underlying hu]
    exact this 9999
  · have : ∀ n : Nat, Instr.sameBits n (Value.int q k) (Value.int q k) = true := fun n => by cases n <;> simp [Instr.sameBits]
    exact this 10000
  · simp only [Instr.sameNow, if_true]
    by_cases e : a = b <;> simp [e]
/-! ### what a map tells -/
variable {P : Program} {N : FN} {ops : Array Oper} {i : Nat} {S : Sl} {w w' w0 : World} {K : Sl → World → Prop} {Z : Hp} {A R : HP} {C : World → Prop} {Q : Exit → Act → World → Prop}
/-! ### at the operation -/
end Go.Cen
