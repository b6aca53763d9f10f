/- The words that lifted functions are told in; binary operations that may fail; strings and bytes. No program in sight. -/
import Derived.Test.YtjbofffabkimeaaCenOp2
import Derived.Lib.ConvBytes
import Derived.Laws.BytesArg
set_option linter.unusedVariables false
set_option linter.unusedSimpArgs false
namespace Go.Cen
/-! ### words -/
def FU : Nat := 2 ^ 62
abbrev wi64 (x : Int) : Int := IntKind.wrap .i64 x
abbrev wu64 (x : Int) : Int := IntKind.wrap .u64 x
abbrev wu32 (x : Int) : Int := IntKind.wrap .u32 x
abbrev wu8 (x : Int) : Int := IntKind.wrap .u8 x
def bAnd (k : IntKind) (x y : Int) : Int := k.wrap (BitVec.ofInt k.bits x &&& BitVec.ofInt k.bits y).toNat
def bOr (k : IntKind) (x y : Int) : Int := k.wrap (BitVec.ofInt k.bits x ||| BitVec.ofInt k.bits y).toNat
def bShl (k : IntKind) (x y : Int) : Int := k.wrap (x * 2 ^ (min y.toNat k.bits))
def bShr (k : IntKind) (x y : Int) : Int := x.fdiv (2 ^ (min y.toNat k.bits))
def seq (a b : ByteArray) : Bool := a.toList == b.toList
def cI (k : IntKind) (x : Int) : List Value := [.int k x]
def cB (b : Bool) : List Value := [.bool b]
def cS (s : ByteArray) : List Value := [.string s]
def cA {α : Type} (e : α → Value) (xs : List α) : List Value := xs.map e
theorem cA_length {α : Type} (e : α → Value) (xs : List α) : (cA e xs).length = xs.length := by simp [cA]
theorem bindS {α β : Type} {o : Option α} {f : α → Option β} {r : β} (h : o.bind f = some r) : ∃ x, o = some x ∧ f x = some r := by
  cases o with
  | none => cases h
  | some x => exact ⟨x, rfl, h⟩
theorem guardS {α : Type} {c : Prop} [Decidable c] {o : Option α} {r : α} (h : (if c then o else none) = some r) : c ∧ o = some r := by
  split at h
  · exact ⟨‹_›, h⟩
  · cases h
theorem someS {α : Type} {x r : α} (h : some x = some r) : x = r := Option.some.inj h
variable {ρ : Option Nat} {P : Program} {Q : Exit → Act → World → Prop} {N : FN} {ops : Array Oper} {S S' : Sl} {a : Act} {w0 w w' : World} {K : Sl → World → Prop} {i : Nat} {Z Z' : Hp} {A B R : HP} {C : World → Prop}

/-! ### arrays in blocks -/
theorem arr_get {α : Type} [Inhabited α] (e : α → Value) (xs : List α) {j : Int} (h0 : 0 ≤ j) (hj : j < xs.length) : (cA e xs)[0 + j.toNat * 1]? = some (e (gt xs j)) := by
  obtain ⟨h, e'⟩ := gt_eq h0 hj
  simp [cA, e', h]
theorem arr_get' {α : Type} [Inhabited α] (e : α → Value) (xs : List α) {j : Int} (h0 : 0 ≤ j) (hj : j < xs.length) : (cA e xs)[j.toNat]? = some (e (gt xs j)) := by
  have := arr_get e xs h0 hj
  simpa using this
def st {α : Type} (xs : List α) (j : Int) (v : α) : List α := xs.set j.toNat v
theorem st_length {α : Type} (xs : List α) (j : Int) (v : α) : (st xs j v).length = xs.length := by simp [st]
theorem arr_all {α : Type} (e : α → Value) (xs ys : List α) (h : ys.length = xs.length) : lset (cA e xs) 0 (cA e ys) = cA e ys := lset_all _ _ (by simp [cA, h])
theorem tail_all {α : Type} (e : α → Value) (l : List Value) (xs ys : List α) (n : Nat) (hn : l.length = n) (h : ys.length = xs.length) : lset (l ++ cA e xs) n (cA e ys) = l ++ cA e ys := by
  subst hn
  rw [lset_eq _ _ _ (by simp [cA, h])]
  simp [cA, h]
theorem tail_take {α : Type} (e : α → Value) (l : List Value) (xs : List α) (n m : Nat) (hn : l.length = n) (h : xs.length = m) : ((l ++ cA e xs).drop n).take m = cA e xs := by
  subst hn; subst h
  simp [cA, List.take_of_length_le]
theorem ones_cA {k : IntKind} (xs : List Int) : (cA (Value.int k) xs).all (·.oneCell') = true := by
  simp [cA, List.all_map]; intro _ _; rfl
theorem ones_app (l m : List Value) (h : l.all (·.oneCell') = true) (k : m.all (·.oneCell') = true) : (l ++ m).all (·.oneCell') = true := by
  rw [List.all_append, h, k]; rfl

/-! ### what may fail -/
def asBin (N : FN) (ops : Array Oper) (S : Sl) (i : Nat) : Option (Nat × BinOp × TypeId × Value × Value) :=
  match sp N ops S i with
  | some o => match o.dst, o.op with
    | some d, .binOp b T x y _ => match ev S x, ev S y with | some v, some u => some (d, b, T, v, u) | _, _ => none
    | _, _ => none
  | none => none
theorem asBin_spec {d : Nat} {b : BinOp} {T : TypeId} {v u : Value} (h : asBin N ops S i = some (d, b, T, v, u)) : ∃ o, sp N ops S i = some o ∧ o.dst = some d ∧ ∃ x y, execOp (rho S) o = (do pure (Next.value (← (do eqGuard b T x y v u; binOp b T v u))) : Sem Next) := by
  unfold asBin at h
  split at h
  · rename_i o hs
    split at h
    · rename_i d' b' T' x y ty e1 e2
      split at h
      · rename_i v' u' hv hu
        cases h
        refine ⟨o, hs, e1, x, y, ?_⟩
        simp only [execOp, e2, rho, hv, hu]
      · cases h
    · cases h
  · cases h
theorem Yl.shl {d : Nat} {T : TypeId} {k k' : IntKind} {x y : Int} (h : asBin N ops S i = some (d, .shl, T, .int k x, .int k' y)) (h0 : 0 ≤ y) : Yl P N ops S i C d (.int k (bShl k x y)) := by
  obtain ⟨o, hs, hd, x', y', he⟩ := asBin_spec h
  refine ⟨o, hs, hd, fun w _ => ?_⟩
  rw [he]
  have : ¬ y < 0 := by omega
  simp [eqGuard, binOp, Op.shift, this, bShl]
/-- How long what is made may be. -/
def LIM : Nat := 1099511627776
theorem Yl.cat {d : Nat} {T : TypeId} {x y : ByteArray} (h : asBin N ops S i = some (d, .add, T, .string x, .string y)) (h0 : x.size + y.size ≤ LIM) : Yl P N ops S i C d (.string (x ++ y)) := by
  obtain ⟨o, hs, hd, x', y', he⟩ := asBin_spec h
  refine ⟨o, hs, hd, fun w _ => ?_⟩
  rw [he]
  have : (x.size : Int) + (y.size : Int) ≤ 9223372036854775807 := by unfold LIM at h0; omega
  simp [eqGuard, binOp, Op.stringOp, this]

/-! ### stores into what is owned -/
theorem Does.storeB {T : TypeId} {b o : Nat} {v : Value} {row : Bool} {sz by_ : Nat} {z : Value} {l vs L' : List Value} {T' : TypeId} {fz : Nat × Nat} (h : asStore N ops S i = some (T, .pointer (some ⟨b, o, none⟩), v)) (ht : Ty P T row sz by_ z)
    (hI : Inv w0 Z w (star (pt b (.cells l.toArray T' fz)) R)) (hz : frz fz l.length) (hv : v.cells.toList = vs) (hl : vs.length = sz) (hfit : o + sz ≤ l.length) (h1 : vs.all (·.oneCell') = true) (hL : lset l o vs = L')
    (hk : ∀ w', Inv w0 Z w' (star (pt b (.cells L'.toArray T' fz)) R) → K S w') : Does P Q N ops i S w K := by
  subst hv; subst hL
  exact Does.storeOwn h ht hI hz (by rw [← hl]; simp) hfit h1 hk
/-- The cells are written out. -/
theorem Does.storeLit {T : TypeId} {b o : Nat} {v : Value} {row : Bool} {sz by_ : Nat} {z : Value} {l vs L' : List Value} {T' : TypeId} (h : asStore N ops S i = some (T, .pointer (some ⟨b, o, none⟩), v)) (ht : Ty P T row sz by_ z)
    (hI : Inv w0 Z w (star (pt b (.cells l.toArray T' (0, 0))) R)) (hv : v.cells.toList = vs) (hl : vs.length = sz) (hfit : Nat.ble (o + sz) l.length = true) (h1 : vs.all (·.oneCell') = true) (hL : lset l o vs = L')
    (hk : ∀ w', Inv w0 Z w' (star (pt b (.cells L'.toArray T' (0, 0))) R) → K S w') : Does P Q N ops i S w K :=
  Does.storeB h ht hI (.inr (Nat.le_refl _)) hv hl (Nat.le_of_ble_eq_true hfit) h1 hL hk
/-- All of it. -/
theorem Does.storeAll {α : Type} {e : α → Value} {xs ys : List α} {T : TypeId} {b n : Nat} {by_ : Nat} {z : Value} {T' : TypeId} (h : asStore N ops S i = some (T, .pointer (some ⟨b, 0, none⟩), .agg (cA e ys).toArray)) (ht : Ty P T true n by_ z)
    (hI : Inv w0 Z w (star (pt b (.cells (cA e xs).toArray T' (0, 0))) R)) (h1 : ∀ u, (e u).oneCell' = true) (hx : xs.length = n) (hy : ys.length = n)
    (hk : ∀ w', Inv w0 Z w' (star (pt b (.cells (cA e ys).toArray T' (0, 0))) R) → K S w') : Does P Q N ops i S w K :=
  Does.storeB (vs := cA e ys) h ht hI (.inr (Nat.le_refl _)) rfl (by rw [cA_length, hy]) (by rw [cA_length, hx]; omega) (by simp [cA, h1]) (arr_all e xs ys (hy.trans hx.symm)) hk
/-- A new variable of a type's zero value, its cells as they are told. -/
theorem Does.allocL {d : Nat} {T : TypeId} {row : Bool} {sz by_ : Nat} {z : Value} (L : List Value) (h : asBox N ops S i = some (d, T, none)) (ht : Ty P T row sz by_ z) (hI : Inv w0 Z w A) (hL : z.cells = L.toArray)
    (hk : ∀ b w', Inv w0 Z w' (star (pt b (.cells L.toArray T (0, 0))) A) → K ((d, .pointer (some ⟨b, 0, none⟩)) :: S) w') : Does P Q N ops i S w K :=
  Does.alloc h ht hI fun b w' hI' => hk b w' (by rw [← hL]; exact hI')
theorem Does.boxL {d : Nat} {T : TypeId} {v : Value} (L : List Value) (h : asBox N ops S i = some (d, T, some v)) (hI : Inv w0 Z w A) (hL : v.cells = L.toArray)
    (hk : ∀ b w', Inv w0 Z w' (star (pt b (.cells L.toArray T (0, 0))) A) → K ((d, .pointer (some ⟨b, 0, none⟩)) :: S) w') : Does P Q N ops i S w K :=
  Does.box h hI fun b w' hI' => hk b w' (by rw [← hL]; exact hI')

/-! ### a slice of what is written out -/
def asBuildSlice (N : FN) (ops : Array Oper) (S : Sl) (i : Nat) : Option (Nat × TypeId × Nat × List (Nat × Value)) :=
  match sp N ops S i with
  | some o => match o.dst, o.op with
    | some d, .buildSlice T n ps => match evs S (ps.toList.map (·.2)) with | some vs => some (d, T, n, (ps.toList.map (·.1)).zip vs) | none => none
    | _, _ => none
  | none => none
theorem Does.buildSlice {α : Type} {en : α → List Value} {d n : Nat} {T E : TypeId} {ps : List (Nat × Value)} {row : Bool} {sz by_ : Nat} {z : Value} (ys : List α) (h : asBuildSlice N ops S i = some (d, T, n, ps)) (ht : P.underlying T = some (.slice E)) (hT : Ty P E row sz by_ z)
    (hn : ys.length = n) (hL : Instr.fill (fun i => some (i * sz, sz)) ((Array.range (n * sz)).map (fun k => z.cells[k % z.cells.size]!)) ps = some (ys.flatMap en).toArray) (hsz : Nat.blt 0 (n * sz) = true) (hsmall : Nat.ble (n * sz) 1000 = true) (hy : ∀ y ∈ ys, (en y).length = sz)
    (hI : Inv w0 Z w A) (hk : ∀ g w', Inv w0 Z w' (star (ownS E en sz (some ⟨g, 0, none⟩) n ys) A) → K ((d, .slice (some ⟨g, 0, none⟩) n n) :: S) w') : Does P Q N ops i S w K := by
  obtain ⟨ti, hi, e1, e2, e3⟩ := hT.get
  unfold asBuildSlice at h
  split at h
  · rename_i o hs
    split at h
    · rename_i d' T' n' ps' e4 e5
      split at h
      · rename_i vs hv
        cases h
        have hr := evs_rho hv
        have hp : (ps'.map fun (i, x) => (i, rho S x)).toList = (ps'.toList.map (·.1)).zip vs := by
          rw [← hr]
          simp [List.map_map]
          induction ps'.toList with
          | nil => rfl
          | cons p r ih => simp [ih]
        have h24 : ¬ (n * sz > 2 ^ 24) := by have := Nat.le_of_ble_eq_true hsmall; omega
        have hne : ¬ (n * sz = 0) := by have := Nat.le_of_ble_eq_true hsz; omega
        refine Does.yield hs (v := .slice (some ⟨w.heap.size, 0, none⟩) n n) (w' := { w with heap := w.heap.push (.cells (ys.flatMap en).toArray E (0, 0)) }) ?_ ?_
        · have h24' : ¬ (2 ^ 24 < n * sz) := by omega
          simp only [execOp, e5, Instr.buildSlice, Sem.run_bind, run_underlying ht, Result.andThen_ok, sizeOf, typeInfo, run_program, hi, Sem.run_pure, e1, h24, if_false, hne, zeroValue, e3, hp, hL, newRow, newObj, Sem.run]
        · rw [e4]
          refine hk _ _ ?_
          have hI' := hI.new (.cells (ys.flatMap en).toArray E (0, 0))
          refine ownS_shut hI' (by omega) ?_ hy ?_ ?_ (frE.zero _ _)
          · have := Nat.le_of_ble_eq_true hsmall
            have h2 := Nat.le_of_ble_eq_true hsz
            have hp0 : 0 < sz := Nat.pos_of_ne_zero (fun e => by subst e; simp at h2)
            have : n ≤ n * sz := Nat.le_mul_of_pos_right n hp0
            simp only [maxLen]; omega
          · rw [flat_length ys hy, hn]
          · rw [List.take_of_length_le]; rw [flat_length ys hy]; exact Nat.le_refl _
      · cases h
    · cases h
  · cases h
/-- What is written out may be appended. -/
theorem src_own {α : Type} {en : α → List Value} {tx e' E : TypeId} {sz : Nat} {Ad : Option Addr} {c : Nat} {ys : List α} (hk : P.underlying tx = some (.slice e')) (hI : Inv w0 Z w (star (ownS E en sz Ad c ys) R)) (h1 : ∀ u ∈ ys.flatMap en, u.oneCell' = true) : Src P sz tx (.slice Ad ys.length c) ys.length (ys.flatMap en) w := by
  by_cases hy : ys = []
  · subst hy; exact src_nil hk
  · obtain ⟨g, rfl, hr⟩ := ownS_range hI hy
    exact src_of_range hk (flat_length ys (ownS_facts hI).2.2) hr h1
theorem src_rd {α : Type} {en : α → List Value} {tx e' : TypeId} {sz : Nat} {Ad : Option Addr} {c : Nat} {ys : List α} (hk : P.underlying tx = some (.slice e')) (hI : Inv w0 Z w A) (hR : RdS Z en sz Ad c ys) (h1 : ∀ u ∈ ys.flatMap en, u.oneCell' = true) : Src P sz tx (.slice Ad ys.length c) ys.length (ys.flatMap en) w := by
  by_cases hy : ys = []
  · subst hy; exact src_nil hk
  · obtain ⟨g, o, rfl, hr⟩ := hR.range hI hy
    exact src_of_range hk (flat_length ys hR.2.2.1) hr h1
theorem one_flat {α : Type} {en : α → List Value} (ys : List α) (h : ∀ y, (en y).all (·.oneCell') = true) : ∀ u ∈ ys.flatMap en, u.oneCell' = true := fun u hu => by
  obtain ⟨y, _, h2⟩ := List.mem_flatMap.1 hu
  exact List.all_eq_true.1 (h y) u h2

/-! ### bytes and strings -/
def byts (s : ByteArray) : List Int := s.data.toList.map fun b => (b.toNat : Int)
theorem byts_length (s : ByteArray) : (byts s).length = s.size := by simp [byts]
def asConv (N : FN) (ops : Array Oper) (S : Sl) (i : Nat) : Option (Nat × TypeId × TypeId × Value) :=
  match sp N ops S i with
  | some o => match o.dst, o.op with
    | some d, .convert s t x => match ev S x with | some v => some (d, s, t, v) | none => none
    | _, _ => none
  | none => none
theorem asConv_spec {d : Nat} {s t : TypeId} {v : Value} (h : asConv N ops S i = some (d, s, t, v)) : ∃ o, sp N ops S i = some o ∧ o.dst = some d ∧ execOp (rho S) o = (do pure (Next.value (← convert s t v)) : Sem Next) := by
  unfold asConv at h
  split at h
  · rename_i o hs
    split at h
    · rename_i d' T' x y e1 e2
      split at h
      · rename_i v' hv
        cases h
        refine ⟨o, hs, e1, ?_⟩
        simp only [execOp, e2, rho, hv]
      · cases h
    · cases h
  · cases h
theorem Yl.b2s {d src dst e g o c : Nat} {xs : List Int} (h : asConv N ops S i = some (d, src, dst, .slice (some ⟨g, o, none⟩) xs.length c)) (hs : P.underlying src = some (.slice e)) (he : P.underlying e = some (.int .u8)) (hd : P.underlying dst = some .string)
    (hr : ∀ w, C w → w.rangeAt g o (cA (Value.int .u8) xs)) : Yl P N ops S i C d (.string (strOfNums xs)) := by
  obtain ⟨op, hs', hd', he'⟩ := asConv_spec h
  refine ⟨op, hs', hd', fun w hC => ?_⟩
  rw [he']
  have := run_convert_bytes_arg (P := P) w src e hs he g o xs.length c xs rfl (fun i hi => hr w hC i _ (by simp [cA, hi])) dst hd
  simp [this]
theorem Yl.b2sNil {d src dst e l c : Nat} (h : asConv N ops S i = some (d, src, dst, .slice none l c)) (hs : P.underlying src = some (.slice e)) (he : P.underlying e = some (.int .u8)) (hd : P.underlying dst = some .string) : Yl P N ops S i C d (.string (strOfNums [])) := by
  obtain ⟨op, hs', hd', he'⟩ := asConv_spec h
  refine ⟨op, hs', hd', fun w hC => ?_⟩
  rw [he']
  have := run_convert_bytes_nil (P := P) w src e hs he l c dst hd
  have e0 : strOfNums [] = ByteArray.empty := by decide +kernel
  simp [this, e0]
theorem flat_cI (k : IntKind) (xs : List Int) : xs.flatMap (cI k) = cA (Value.int k) xs := by
  induction xs with
  | nil => rfl
  | cons x r ih => simp [cI, cA] at ih ⊢; exact ih
/-- Bytes of the call's own, as a string: nil or not. -/
theorem Does.b2sOwn {d src dst e c E : Nat} {Ad : Option Addr} {xs : List Int} (h : asConv N ops S i = some (d, src, dst, .slice Ad xs.length c)) (hs : P.underlying src = some (.slice e)) (he : P.underlying e = some (.int .u8)) (hd : P.underlying dst = some .string)
    (hI : Inv w0 Z w (star (ownS E (cI .u8) 1 Ad c xs) R)) (hk : K ((d, .string (strOfNums xs)) :: S) w) : Does P Q N ops i S w K := by
  by_cases hx : xs = []
  · subst hx
    cases Ad with
    | none => exact Does.yl (C := fun _ => True) (Yl.b2sNil h hs he hd) trivial hk
    | some ad =>
      obtain ⟨b, o, sp⟩ := ad
      obtain ⟨op, hs', hd', he'⟩ := asConv_spec h
      refine Does.yield hs' (v := .string (strOfNums [])) (w' := w) ?_ (by rw [hd']; exact hk)
      rw [he']
      have e0 : strOfNums [] = ByteArray.empty := by decide +kernel
      have hl : (loadCells ⟨b, o, sp⟩ 0).run P w = .ok #[] w := by simpa using run_loadCells_list (P := P) w ⟨b, o, sp⟩ [] (by simp)
      simp [run_convert_bytes_string w src dst e _ 0 c hs he hd, Conv.bytesToString, hl, e0]
  · obtain ⟨g, rfl, hr⟩ := ownS_range hI hx
    refine Does.yl (C := fun w' => w' = w) (Yl.b2s h hs he hd fun w' e => ?_) rfl hk
    subst e
    rw [← flat_cI]; exact hr
theorem Does.s2b {d src dst e : Nat} {s : ByteArray} (h : asConv N ops S i = some (d, src, dst, .string s)) (hs : P.underlying src = some .string) (hd : P.underlying dst = some (.slice e)) (he : P.underlying e = some (.int .u8)) (hm : s.size ≤ 9223372036854775807)
    (hI : Inv w0 Z w A) (hk : ∀ A' c' w', Inv w0 Z w' (star (ownS e (cI .u8) 1 A' c' (byts s)) A) → K ((d, .slice A' (byts s).length c') :: S) w') : Does P Q N ops i S w K := by
  obtain ⟨op, hs', hd', he'⟩ := asConv_spec h
  let cap := w.tape w.drawn (.appendCap s.size 0 e)
  have hc1 : s.size ≤ (Question.appendCap s.size 0 e).cut cap := by simp [Question.cut]
  have hc2 : (Question.appendCap s.size 0 e).cut cap ≤ maxLen := by
    have hlt := Nat.mod_lt cap (show 0 < 2 ^ 63 - s.size by omega)
    simp only [Question.cut, maxLen]; omega
  generalize hcap : (Question.appendCap s.size 0 e).cut cap = cp at hc1 hc2
  let L : List Value := (s.data.toList.map fun b => Value.int .u8 b.toNat) ++ List.replicate (cp - s.size) (.int .u8 0)
  have hL : L.length = cp := by simp [L]; show s.data.size + _ = _; have : s.data.size = s.size := rfl; omega
  have hI1 := (hI.drawn (w.drawn + 1)).new (.cells L.toArray e (cp, cp + 1))
  refine Does.yield hs' (v := .slice (some ⟨w.heap.size, 0, none⟩) s.size cp) (w' := { { w with drawn := w.drawn + 1 } with heap := w.heap.push (.cells L.toArray e (cp, cp + 1)) }) ?_ ?_
  · rw [he']
    have hLa : (s.data.map (fun b => Value.int IntKind.u8 b.toNat)) ++ Array.replicate (cp - s.size) (Value.int .u8 0) = L.toArray := by
      apply Array.toList_inj.1; simp [L]
    simp [convert, run_underlying hs, run_underlying hd, run_underlying he, Conv.stringToBytes, choose, Sem.run, Question.forced, newRow, newObj, markStringish, shape, freeze]
    have hcap' : (Question.appendCap s.size 0 e).cut (w.tape w.drawn (Question.appendCap s.size 0 e)) = cp := hcap
    rw [hcap', hLa]
    have hb : (w.drew.alloc (.cells L.toArray e)).heap[w.heap.size]? = some (.cells L.toArray e (0, 0)) := heap_alloc_new w.drew _
    have hsh : (w.drew.alloc (.cells L.toArray e)).shape? w.heap.size = some (e, cp) := by
      simp only [World.shape?, hb, List.size_toArray, hL]
    have hfz : (w.drew.alloc (.cells L.toArray e)).freeze ⟨w.heap.size, cp, none⟩ 1 = { { w with drawn := w.drawn + 1 } with heap := w.heap.push (.cells L.toArray e (cp, cp + 1)) } := by
      have e1 : (w.heap.push (.cells L.toArray e (0, 0))).modify w.heap.size (fun
          | .cells c elem (lo, hi) => .cells c elem (if lo == hi then (cp, cp + 1) else (min lo cp, max hi (cp + 1)))
          | o => o) = w.heap.push (.cells L.toArray e (cp, cp + 1)) := by
        apply Array.ext (by simp)
        intro k h1 h2
        rw [Array.getElem_modify]
        simp only [Array.getElem_push]
        by_cases hk : w.heap.size = k
        · subst hk; simp
        · rw [if_neg hk]
          simp only [Array.size_modify, Array.size_push] at h1
          have : k < w.heap.size := by omega
          simp [this]
      simp only [World.freeze, Nat.one_ne_zero, if_false]
      exact congrArg (fun hp => ({ heap := hp, tape := w.tape, drawn := w.drawn + 1, os := w.os, output := w.output } : World)) e1
    rw [hsh]
    simp only [Sem.run, hfz, Result.andThen_ok]
  · rw [hd']
    have := hk (some ⟨w.heap.size, 0, none⟩) cp _ (ownS_shut (ys := byts s) (sz := 1) (en := cI .u8) hI1 (by rw [byts_length]; exact hc1) hc2 (fun _ _ => rfl) (by rw [hL]; omega) ?_ ⟨.inl (by rw [hL]; exact Nat.le_refl _), .inr (fun y v hv => ⟨y, by simpa [cI] using hv⟩)⟩)
    · rw [byts_length] at this; exact this
    · rw [flat_cI, byts_length, Nat.mul_one]
      simp only [L]
      rw [List.take_left']
      · simp [cA, byts]
      · simp
end Go.Cen
