/- The words that lifted functions are told in; binary operations that may fail; strings and bytes. No program in sight. -/
import Derived.Test.YthdoklobbcedcacDoorCenOp2
import Derived.Lib.ConvBytes
import Derived.Laws.BytesArg
set_option linter.unusedVariables false
set_option linter.unusedSimpArgs false
namespace Go.Cen
/-! ### words -/
def FU : Nat := 2 ^ 62
abbrev wi64 (x : Int) : Int := IntKind.wrap .i64 x
abbrev wi32 (x : Int) : Int := IntKind.wrap .i32 x
def bAnd (k : IntKind) (x y : Int) : Int := k.wrap (BitVec.ofInt k.bits x &&& BitVec.ofInt k.bits y).toNat
def bOr (k : IntKind) (x y : Int) : Int := k.wrap (BitVec.ofInt k.bits x ||| BitVec.ofInt k.bits y).toNat
def bShl (k : IntKind) (x y : Int) : Int := k.wrap (x * 2 ^ (min y.toNat k.bits))
def bShr (k : IntKind) (x y : Int) : Int := x.fdiv (2 ^ (min y.toNat k.bits))
def seq (a b : ByteArray) : Bool := a.toList == b.toList
def cI (k : IntKind) (x : Int) : List Value := [.int k x]
def cB (b : Bool) : List Value := [.bool b]
def cS (s : ByteArray) : List Value := [.string s]
def cA {α : Type} (e : α → Value) (xs : List α) : List Value := xs.map e
theorem bindS {α β : Type} {o : Option α} {f : α → Option β} {r : β} (h : o.bind f = some r) : ∃ x, o = some x ∧ f x = some r := by
  cases o with
  | none => cases h
  | some x => exact ⟨x, rfl, h⟩
theorem guardS {α : Type} {c : Prop} [Decidable c] {o : Option α} {r : α} (h : (if c then o else none) = some r) : c ∧ o = some r := by
  split at h
  · exact ⟨‹_›, h⟩
  · cases h
theorem someS {α : Type} {x r : α} (h : some x = some r) : x = r := Option.some.inj h
variable {ρ : Option Nat} {P : Program} {Q : Exit → Act → World → Prop} {N : FN} {ops : Array Oper} {S S' : Sl} {a : Act} {w0 w w' : World} {K : Sl → World → Prop} {i : Nat} {Z Z' : Hp} {A B R : HP} {C : World → Prop}

/-! ### arrays in blocks -/
def st {α : Type} (xs : List α) (j : Int) (v : α) : List α := xs.set j.toNat v
/-! ### what may fail -/
def asBin (N : FN) (ops : Array Oper) (S : Sl) (i : Nat) : Option (Nat × BinOp × TypeId × Value × Value) :=
  match sp N ops S i with
  | some o => match o.dst, o.op with
    | some d, .binOp b T x y _ => match ev S x, ev S y with | some v, some u => some (d, b, T, v, u) | _, _ => none
    | _, _ => none
  | none => none
theorem asBin_spec {d : Nat} {b : BinOp} {T : TypeId} {v u : Value} (h : asBin N ops S i = some (d, b, T, v, u)) : ∃ o, sp N ops S i = some o ∧ o.dst = some d ∧ ∃ x y, execOp (rho S) o = (do pure (Next.value (← (do eqGuard b T x y v u; binOp b T v u))) : Sem Next) := by
  unfold asBin at h
  split at h
  · rename_i o hs
    split at h
    · rename_i d' b' T' x y ty e1 e2
      split at h
      · rename_i v' u' hv hu
        cases h
        refine ⟨o, hs, e1, x, y, ?_⟩
        simp only [execOp, e2, rho, hv, hu]
      · cases h
    · cases h
  · cases h
/-- How long what is made may be. -/
def LIM : Nat := 1099511627776
/-! ### stores into what is owned -/
theorem Does.storeB {T : TypeId} {b o : Nat} {v : Value} {row : Bool} {sz by_ : Nat} {z : Value} {l vs L' : List Value} {T' : TypeId} {fz : Nat × Nat} (h : asStore N ops S i = some (T, .pointer (some ⟨b, o, none⟩), v)) (ht : Ty P T row sz by_ z)
    (hI : Inv w0 Z w (star (pt b (.cells l.toArray T' fz)) R)) (hz : frz fz l.length) (hv : v.cells.toList = vs) (hl : vs.length = sz) (hfit : o + sz ≤ l.length) (h1 : vs.all (·.oneCell') = true) (hL : lset l o vs = L')
    (hk : ∀ w', Inv w0 Z w' (star (pt b (.cells L'.toArray T' fz)) R) → K S w') : Does P Q N ops i S w K := by
  subst hv; subst hL
  exact Does.storeOwn h ht hI hz (by rw [← hl]; simp) hfit h1 hk
/-- The cells are written out. -/
theorem Does.storeLit {T : TypeId} {b o : Nat} {v : Value} {row : Bool} {sz by_ : Nat} {z : Value} {l vs L' : List Value} {T' : TypeId} (h : asStore N ops S i = some (T, .pointer (some ⟨b, o, none⟩), v)) (ht : Ty P T row sz by_ z)
    (hI : Inv w0 Z w (star (pt b (.cells l.toArray T' (0, 0))) R)) (hv : v.cells.toList = vs) (hl : vs.length = sz) (hfit : Nat.ble (o + sz) l.length = true) (h1 : vs.all (·.oneCell') = true) (hL : lset l o vs = L')
    (hk : ∀ w', Inv w0 Z w' (star (pt b (.cells L'.toArray T' (0, 0))) R) → K S w') : Does P Q N ops i S w K :=
  Does.storeB h ht hI (.inr (Nat.le_refl _)) hv hl (Nat.le_of_ble_eq_true hfit) h1 hL hk
/-- A new variable of a type's zero value, its cells as they are told. -/
theorem Does.allocL {d : Nat} {T : TypeId} {row : Bool} {sz by_ : Nat} {z : Value} (L : List Value) (h : asBox N ops S i = some (d, T, none)) (ht : Ty P T row sz by_ z) (hI : Inv w0 Z w A) (hL : z.cells = L.toArray)
    (hk : ∀ b w', Inv w0 Z w' (star (pt b (.cells L.toArray T (0, 0))) A) → K ((d, .pointer (some ⟨b, 0, none⟩)) :: S) w') : Does P Q N ops i S w K :=
  Does.alloc h ht hI fun b w' hI' => hk b w' (by rw [← hL]; exact hI')
theorem Does.boxL {d : Nat} {T : TypeId} {v : Value} (L : List Value) (h : asBox N ops S i = some (d, T, some v)) (hI : Inv w0 Z w A) (hL : v.cells = L.toArray)
    (hk : ∀ b w', Inv w0 Z w' (star (pt b (.cells L.toArray T (0, 0))) A) → K ((d, .pointer (some ⟨b, 0, none⟩)) :: S) w') : Does P Q N ops i S w K :=
  Does.box h hI fun b w' hI' => hk b w' (by rw [← hL]; exact hI')

/-! ### a slice of what is written out -/
def asBuildSlice (N : FN) (ops : Array Oper) (S : Sl) (i : Nat) : Option (Nat × TypeId × Nat × List (Nat × Value)) :=
  match sp N ops S i with
  | some o => match o.dst, o.op with
    | some d, .buildSlice T n ps => match evs S (ps.toList.map (·.2)) with | some vs => some (d, T, n, (ps.toList.map (·.1)).zip vs) | none => none
    | _, _ => none
  | none => none
theorem Does.buildSlice {α : Type} {en : α → List Value} {d n : Nat} {T E : TypeId} {ps : List (Nat × Value)} {row : Bool} {sz by_ : Nat} {z : Value} (ys : List α) (h : asBuildSlice N ops S i = some (d, T, n, ps)) (ht : P.underlying T = some (.slice E)) (hT : Ty P E row sz by_ z)
    (hn : ys.length = n) (hL : Instr.fill (fun i => some (i * sz, sz)) ((Array.range (n * sz)).map (fun k => z.cells[k % z.cells.size]!)) ps = some (ys.flatMap en).toArray) (hsz : Nat.blt 0 (n * sz) = true) (hsmall : Nat.ble (n * sz) 1000 = true) (hy : ∀ y ∈ ys, (en y).length = sz)
    (hI : Inv w0 Z w A) (hk : ∀ g w', Inv w0 Z w' (star (ownS E en sz (some ⟨g, 0, none⟩) n ys) A) → K ((d, .slice (some ⟨g, 0, none⟩) n n) :: S) w') : Does P Q N ops i S w K := by
  obtain ⟨ti, hi, e1, e2, e3⟩ := hT.get
  unfold asBuildSlice at h
  split at h
  · rename_i o hs
    split at h
    · rename_i d' T' n' ps' e4 e5
      split at h
      · rename_i vs hv
        cases h
        have hr := evs_rho hv
        have hp : (ps'.map fun (i, x) => (i, rho S x)).toList = (ps'.toList.map (·.1)).zip vs := by
          rw [← hr]
          simp [List.map_map]
          induction ps'.toList with
          | nil => rfl
          | cons p r ih => simp [ih]
        have h24 : ¬ (n * sz > 2 ^ 24) := by have := Nat.le_of_ble_eq_true hsmall; omega
        have hne : ¬ (n * sz = 0) := by have := Nat.le_of_ble_eq_true hsz; omega
        refine Does.yield hs (v := .slice (some ⟨w.heap.size, 0, none⟩) n n) (w' := { w with heap := w.heap.push (.cells (ys.flatMap en).toArray E (0, 0)) }) ?_ ?_
        · have h24' : ¬ (2 ^ 24 < n * sz) := by omega
          simp only [execOp, e5, Instr.buildSlice, Sem.run_bind, run_underlying ht, Result.andThen_ok, sizeOf, typeInfo, run_program, hi, Sem.run_pure, e1, h24, if_false, hne, zeroValue, e3, hp, hL, newRow, newObj, Sem.run]
        · rw [e4]
          refine hk _ _ ?_
          have hI' := hI.new (.cells (ys.flatMap en).toArray E (0, 0))
          refine ownS_shut hI' (by omega) ?_ hy ?_ ?_ (frE.zero _ _)
          · have := Nat.le_of_ble_eq_true hsmall
            have h2 := Nat.le_of_ble_eq_true hsz
            have hp0 : 0 < sz := Nat.pos_of_ne_zero (fun e => by subst e; simp at h2)
            have : n ≤ n * sz := Nat.le_mul_of_pos_right n hp0
            simp only [maxLen]; omega
          · rw [flat_length ys hy, hn]
          · rw [List.take_of_length_le]; rw [flat_length ys hy]; exact Nat.le_refl _
      · cases h
    · cases h
  · cases h
/-- What is written out may be appended. -/
theorem src_own {α : Type} {en : α → List Value} {tx e' E : TypeId} {sz : Nat} {Ad : Option Addr} {c : Nat} {ys : List α} (hk : P.underlying tx = some (.slice e')) (hI : Inv w0 Z w (star (ownS E en sz Ad c ys) R)) (h1 : ∀ u ∈ ys.flatMap en, u.oneCell' = true) : Src P sz tx (.slice Ad ys.length c) ys.length (ys.flatMap en) w := by
  by_cases hy : ys = []
  · subst hy; exact src_nil hk
  · obtain ⟨g, rfl, hr⟩ := ownS_range hI hy
    exact src_of_range hk (flat_length ys (ownS_facts hI).2.2) hr h1
theorem src_rd {α : Type} {en : α → List Value} {tx e' : TypeId} {sz : Nat} {Ad : Option Addr} {c : Nat} {ys : List α} (hk : P.underlying tx = some (.slice e')) (hI : Inv w0 Z w A) (hR : RdS Z en sz Ad c ys) (h1 : ∀ u ∈ ys.flatMap en, u.oneCell' = true) : Src P sz tx (.slice Ad ys.length c) ys.length (ys.flatMap en) w := by
  by_cases hy : ys = []
  · subst hy; exact src_nil hk
  · obtain ⟨g, o, rfl, hr⟩ := hR.range hI hy
    exact src_of_range hk (flat_length ys hR.2.2.1) hr h1
theorem one_flat {α : Type} {en : α → List Value} (ys : List α) (h : ∀ y, (en y).all (·.oneCell') = true) : ∀ u ∈ ys.flatMap en, u.oneCell' = true := fun u hu => by
  obtain ⟨y, _, h2⟩ := List.mem_flatMap.1 hu
  exact List.all_eq_true.1 (h y) u h2

/-! ### bytes and strings -/
theorem flat_cS (xs : List ByteArray) : xs.flatMap cS = cA Value.string xs := by
  induction xs with
  | nil => rfl
  | cons x r ih => simp [cS, cA] at ih ⊢; exact ih
end Go.Cen
