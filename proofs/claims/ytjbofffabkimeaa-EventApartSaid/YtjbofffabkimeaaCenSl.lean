/- The memory side of every proof here: what a call owns is told by a separating conjunction, what nobody changes any more by a heap that only grows. No program in sight. -/
import Derived.Below
import Derived.Calls
import Derived.Orders
import Derived.KernelRfl
import Derived.Laws.AppendOwn
import Derived.Laws.Rows
import Derived.Laws.Slices
set_option linter.unusedVariables false
set_option linter.unusedSimpArgs false
namespace Go.Cen

/-! ### heaps of parts -/
def Hp : Type := Nat → Option Obj
def Hp.emp : Hp := fun _ => none
def Hp.disj (h k : Hp) : Prop := ∀ b, h b = none ∨ k b = none
def Hp.join (h k : Hp) : Hp := fun b => (h b).or (k b)
def Hp.le (h k : Hp) : Prop := ∀ b o, h b = some o → k b = some o
def Hp.one (b : Nat) (o : Obj) : Hp := fun k => if k = b then some o else none

theorem Hp.le_refl (h : Hp) : h.le h := fun _ _ e => e
theorem Hp.le_trans {a b c : Hp} (h : a.le b) (k : b.le c) : a.le c := fun x o e => k x o (h x o e)
theorem Hp.disj_symm {a b : Hp} (h : a.disj b) : b.disj a := fun x => (h x).symm
theorem Hp.join_comm {a b : Hp} (h : a.disj b) : a.join b = b.join a := by
  funext x
  rcases h x with e | e <;> simp [Hp.join, e]
theorem Hp.join_assoc (a b c : Hp) : (a.join b).join c = a.join (b.join c) := by
  funext x; simp [Hp.join, Option.or_assoc]
theorem Hp.emp_join (a : Hp) : Hp.emp.join a = a := by funext x; simp [Hp.join, Hp.emp]
theorem Hp.join_emp (a : Hp) : a.join Hp.emp = a := by funext x; simp [Hp.join, Hp.emp]
theorem Hp.disj_emp (a : Hp) : a.disj Hp.emp := fun _ => .inr rfl
theorem Hp.emp_disj (a : Hp) : Hp.emp.disj a := fun _ => .inl rfl
theorem Hp.join_some {a b : Hp} {x : Nat} {o : Obj} (h : a.join b x = some o) : a x = some o ∨ b x = some o := by
  simp only [Hp.join] at h
  cases e : a x <;> simp [e] at h
  · exact .inr h
  · exact .inl (by rw [h])
theorem Hp.join_none {a b : Hp} {x : Nat} : a.join b x = none ↔ a x = none ∧ b x = none := by
  simp only [Hp.join]
  cases e : a x <;> simp
theorem Hp.disj_join {a b c : Hp} : a.disj (b.join c) ↔ a.disj b ∧ a.disj c := by
  constructor
  · intro h
    refine ⟨fun x => ?_, fun x => ?_⟩ <;> rcases h x with e | e
    · exact .inl e
    · exact .inr (Hp.join_none.1 e).1
    · exact .inl e
    · exact .inr (Hp.join_none.1 e).2
  · rintro ⟨h, k⟩ x
    rcases h x with e | e
    · exact .inl e
    · rcases k x with e' | e'
      · exact .inl e'
      · exact .inr (Hp.join_none.2 ⟨e, e'⟩)
theorem Hp.join_disj {a b c : Hp} : (a.join b).disj c ↔ a.disj c ∧ b.disj c :=
  ⟨fun h => let ⟨x, y⟩ := Hp.disj_join.1 (Hp.disj_symm h); ⟨Hp.disj_symm x, Hp.disj_symm y⟩,
   fun ⟨x, y⟩ => Hp.disj_symm (Hp.disj_join.2 ⟨Hp.disj_symm x, Hp.disj_symm y⟩)⟩
theorem Hp.le_join_left (a b : Hp) : a.le (a.join b) := fun x o e => by simp [Hp.join, e]
theorem Hp.one_self (b : Nat) (o : Obj) : Hp.one b o b = some o := by simp [Hp.one]
theorem Hp.one_some {b k : Nat} {o o' : Obj} (h : Hp.one b o k = some o') : k = b ∧ o = o' := by
  simp only [Hp.one] at h
  split at h <;> simp_all
theorem Hp.one_ne {b k : Nat} {o : Obj} (h : k ≠ b) : Hp.one b o k = none := by simp [Hp.one, h]

/-! ### what is owned -/
def HP : Type := Hp → Prop
def emp : HP := fun h => h = Hp.emp
def star (A B : HP) : HP := fun h => ∃ x y, A x ∧ B y ∧ x.disj y ∧ h = x.join y
def pt (b : Nat) (o : Obj) : HP := fun h => h = Hp.one b o
def ent (A B : HP) : Prop := ∀ h, A h → B h

theorem ent_refl (A : HP) : ent A A := fun _ h => h
theorem ent_trans {A B C : HP} (h : ent A B) (k : ent B C) : ent A C := fun x hx => k x (h x hx)
theorem star_mono {A A' B B' : HP} (h : ent A A') (k : ent B B') : ent (star A B) (star A' B') :=
  fun _ ⟨x, y, a, b, d, e⟩ => ⟨x, y, h x a, k y b, d, e⟩
theorem star_r {A B B' : HP} (k : ent B B') : ent (star A B) (star A B') := star_mono (ent_refl A) k
theorem star_l {A A' B : HP} (k : ent A A') : ent (star A B) (star A' B) := star_mono k (ent_refl B)
theorem star_comm (A B : HP) : ent (star A B) (star B A) := fun _ ⟨x, y, a, b, d, e⟩ => ⟨y, x, b, a, Hp.disj_symm d, e.trans (Hp.join_comm d)⟩
theorem star_assoc (A B C : HP) : ent (star (star A B) C) (star A (star B C)) := by
  rintro _ ⟨_, z, ⟨x, y, a, b, d, rfl⟩, c, d', rfl⟩
  obtain ⟨dx, dy⟩ := Hp.join_disj.1 d'
  exact ⟨x, y.join z, a, ⟨y, z, b, c, dy, rfl⟩, Hp.disj_join.2 ⟨d, dx⟩, Hp.join_assoc x y z⟩
theorem star_assoc' (A B C : HP) : ent (star A (star B C)) (star (star A B) C) := by
  rintro _ ⟨x, _, a, ⟨y, z, b, c, d, rfl⟩, d', rfl⟩
  obtain ⟨dy, dz⟩ := Hp.disj_join.1 d'
  exact ⟨x.join y, z, ⟨x, y, a, b, dy, rfl⟩, c, Hp.join_disj.2 ⟨dz, d⟩, (Hp.join_assoc x y z).symm⟩
theorem star_emp (A : HP) : ent A (star emp A) := fun h a => ⟨Hp.emp, h, rfl, a, Hp.emp_disj h, (Hp.emp_join h).symm⟩
theorem pick2 (a b r : HP) : ent (star a (star b r)) (star b (star a r)) := ent_trans (star_assoc' a b r) (ent_trans (star_l (star_comm a b)) (star_assoc b a r))
theorem pick3 (a b c r : HP) : ent (star a (star b (star c r))) (star c (star a (star b r))) := ent_trans (star_r (pick2 b c r)) (pick2 a c _)
/-! ### what is known of a world -/
/-- Since the call began (in w0) nothing outside memory has turned; all that Z tells stands, and A is owned beside it. -/
structure Inv (w0 : World) (Z : Hp) (w : World) (A : HP) : Prop where
  os : w.os = w0.os
  tape : w.tape = w0.tape
  output : w.output = w0.output
  mem : ∃ h, A h ∧ Z.disj h ∧ ∀ b o, (Z.join h) b = some o → w.heap[b]? = some o

variable {w0 w w' : World} {Z Z' : Hp} {A B R : HP}

theorem Inv.mono (h : Inv w0 Z w A) (e : ent A B) : Inv w0 Z w B :=
  let ⟨x, a, d, m⟩ := h.mem
  ⟨h.os, h.tape, h.output, x, e x a, d, m⟩
theorem Inv.drop (h : Inv w0 Z w (star A R)) : Inv w0 Z w R := by
  obtain ⟨_, ⟨x, y, a, b, d, rfl⟩, dz, m⟩ := h.mem
  refine ⟨h.os, h.tape, h.output, y, b, (Hp.disj_join.1 dz).2, fun k o e => ?_⟩
  refine m k o ?_
  rw [Hp.join_comm d, ← Hp.join_assoc]
  exact Hp.le_join_left _ _ _ _ e
theorem Inv.weaken (h : Inv w0 Z' w A) (le : Z.le Z') : Inv w0 Z w A := by
  obtain ⟨x, a, d, m⟩ := h.mem
  refine ⟨h.os, h.tape, h.output, x, a, fun b => ?_, fun b o e => ?_⟩
  · rcases d b with e | e
    · left
      cases hz : Z b with
      | none => rfl
      | some o => rw [le b o hz] at e; cases e
    · exact .inr e
  · refine m b o ?_
    rcases Hp.join_some e with e | e
    · exact Hp.le_join_left _ _ _ _ (le b o e)
    · rw [Hp.join_comm d]; exact Hp.le_join_left _ _ _ _ e
/-- What the old heap tells stands in the world. -/
theorem Inv.zone (h : Inv w0 Z w A) {b : Nat} {o : Obj} (e : Z b = some o) : w.heap[b]? = some o :=
  let ⟨_, _, _, m⟩ := h.mem
  m b o (Hp.le_join_left _ _ _ _ e)
theorem Inv.block {b : Nat} {o : Obj} (h : Inv w0 Z w (star (pt b o) R)) : w.heap[b]? = some o := by
  obtain ⟨_, ⟨x, y, rfl, _, d, rfl⟩, dz, m⟩ := h.mem
  refine m b o ?_
  rw [Hp.join_comm dz]
  exact Hp.le_join_left _ _ _ _ (Hp.le_join_left _ _ _ _ (Hp.one_self b o))
/-- The same memory, another count of draws. -/
theorem Inv.same (h : Inv w0 Z w A) (e1 : w'.heap = w.heap) (e2 : w'.os = w.os) (e3 : w'.tape = w.tape) (e4 : w'.output = w.output) : Inv w0 Z w' A :=
  ⟨e2.trans h.os, e3.trans h.tape, e4.trans h.output, let ⟨x, a, d, m⟩ := h.mem; ⟨x, a, d, fun b o k => by rw [e1]; exact m b o k⟩⟩
theorem Inv.drawn (h : Inv w0 Z w A) (n : Nat) : Inv w0 Z { w with drawn := n } A := h.same rfl rfl rfl rfl
theorem Inv.new (h : Inv w0 Z w A) (o : Obj) : Inv w0 Z { w with heap := w.heap.push o } (star (pt w.heap.size o) A) := by
  obtain ⟨x, a, d, m⟩ := h.mem
  have none_at : (Z.join x) w.heap.size = none := by
    cases e : (Z.join x) w.heap.size with
    | none => rfl
    | some o' => have := m _ _ e; simp at this
  have hz := (Hp.join_none.1 none_at).1
  have hx := (Hp.join_none.1 none_at).2
  have dj : ∀ k : Hp, k w.heap.size = none → (Hp.one w.heap.size o).disj k := fun k hk b => by
    by_cases e : b = w.heap.size
    · subst e; exact .inr hk
    · exact .inl (Hp.one_ne e)
  refine ⟨h.os, h.tape, h.output, (Hp.one w.heap.size o).join x, ⟨_, x, rfl, a, dj x hx, rfl⟩, Hp.disj_join.2 ⟨Hp.disj_symm (dj Z hz), d⟩, fun b o' e => ?_⟩
  show (w.heap.push o)[b]? = some o'
  have key : b = w.heap.size ∧ o = o' ∨ (Z.join x) b = some o' := by
    rcases Hp.join_some e with e | e
    · exact .inr (Hp.le_join_left _ _ _ _ e)
    · rcases Hp.join_some e with e | e
      · exact .inl (Hp.one_some e)
      · right; rw [Hp.join_comm d]; exact Hp.le_join_left _ _ _ _ e
  rcases key with ⟨rfl, rfl⟩ | e
  · simp
  · have := m b o' e
    rw [Array.getElem?_push]
    split
    · rename_i hb; subst hb; simp at this
    · exact this
/-- A block that is owned is changed. -/
theorem Inv.put {b : Nat} {o o' : Obj} (h : Inv w0 Z w (star (pt b o) R)) (e1 : w'.heap[b]? = some o') (e0 : ∀ k, k ≠ b → w'.heap[k]? = w.heap[k]?)
    (e2 : w'.os = w.os) (e3 : w'.tape = w.tape) (e4 : w'.output = w.output) : Inv w0 Z w' (star (pt b o') R) := by
  obtain ⟨_, ⟨x, y, rfl, r, d, rfl⟩, dz, m⟩ := h.mem
  obtain ⟨dz1, dz2⟩ := Hp.disj_join.1 dz
  have sw : ∀ k : Hp, (Hp.one b o).disj k → (Hp.one b o').disj k := fun k hk c => by
    by_cases e : c = b
    · subst e
      rcases hk c with e | e
      · rw [Hp.one_self] at e; cases e
      · exact .inr e
    · exact .inl (Hp.one_ne e)
  refine ⟨e2.trans h.os, e3.trans h.tape, e4.trans h.output, (Hp.one b o').join y, ⟨_, y, rfl, r, sw y d, rfl⟩, Hp.disj_join.2 ⟨Hp.disj_symm (sw Z (Hp.disj_symm dz1)), dz2⟩, fun c u e => ?_⟩
  have hb : Z b = none := by
    rcases dz1 b with e | e
    · exact e
    · rw [Hp.one_self] at e; cases e
  have hy : y b = none := by
    rcases d b with e | e
    · rw [Hp.one_self] at e; cases e
    · exact e
  by_cases ec : c = b
  · subst ec
    rcases Hp.join_some e with e | e
    · rw [hb] at e; cases e
    · rcases Hp.join_some e with e | e
      · rw [Hp.one_self] at e; cases e; exact e1
      · rw [hy] at e; cases e
  · rw [e0 c ec]
    refine m c u ?_
    rcases Hp.join_some e with e | e
    · exact Hp.le_join_left _ _ _ _ e
    · rcases Hp.join_some e with e | e
      · exact absurd (Hp.one_some e).1 ec
      · rw [Hp.join_comm dz, Hp.join_comm d, Hp.join_assoc]; exact Hp.le_join_left _ _ _ _ e
/-- What is owned is given away for good: it is told by the heap that only grows. -/
theorem Inv.freeze (h : Inv w0 Z w (star A R)) : ∃ x Z', A x ∧ Z.le Z' ∧ x.le Z' ∧ Inv w0 Z' w R := by
  obtain ⟨_, ⟨x, y, a, r, d, rfl⟩, dz, m⟩ := h.mem
  obtain ⟨dz1, dz2⟩ := Hp.disj_join.1 dz
  refine ⟨x, Z.join x, a, Hp.le_join_left _ _, fun b o e => ?_, h.os, h.tape, h.output, y, r, Hp.join_disj.2 ⟨dz2, d⟩, fun b o e => m b o ?_⟩
  · rw [Hp.join_comm dz1]; exact Hp.le_join_left _ _ _ _ e
  · rw [← Hp.join_assoc]; exact e
/-- A call began where all this was known, and kept it. -/
def heapOf (w : World) : Hp := fun b => w.heap[b]?
theorem Inv.start (w : World) : Inv w (heapOf w) w emp :=
  ⟨rfl, rfl, rfl, Hp.emp, rfl, Hp.disj_emp _, fun b o e => by rw [Hp.join_emp] at e; exact e⟩
theorem Inv.below (h : Inv w0 (heapOf w0) w A) : RowKit.Below w0.heap.size w0 w := by
  have key : ∀ k, k < w0.heap.size → w.heap[k]? = w0.heap[k]? := fun k hk => by
    have e : w0.heap[k]? = some w0.heap[k] := Array.getElem?_eq_getElem hk
    rw [e]; exact h.zone (b := k) e
  refine ⟨h.os, h.tape, h.output, ?_, key⟩
  rcases Nat.lt_or_ge w.heap.size w0.heap.size with hlt | hge
  · have := key w.heap.size hlt
    rw [Array.getElem?_eq_getElem hlt] at this
    simp at this
  · exact hge
end Go.Cen
