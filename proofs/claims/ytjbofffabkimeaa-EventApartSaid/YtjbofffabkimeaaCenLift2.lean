/- More rules of a walk: regions by a list, equality, parts of strings and slices. No program in sight. -/
import Derived.Test.YtjbofffabkimeaaCenLift
import Derived.ChangeKeysEq
import Derived.Laws.StructEq
set_option linter.unusedVariables false
set_option linter.unusedSimpArgs false
namespace Go.Cen
variable {ρ : Option Nat} {P : Program} {Q : Exit → Act → World → Prop} {N : FN} {ops : Array Oper} {S S' : Sl} {a : Act} {w0 w w' : World} {K : Sl → World → Prop} {i : Nat} {Z Z' : Hp} {A B R : HP} {C : World → Prop}
theorem CodT.regionL {id : Nat} (l : List Nat) (hn : List.range ops.size = l) (h : OpsT P ops Q N l S w) : CodT ρ P (.region id ops false) Q N S w :=
  fun a ha => wpIn_region (by rw [hn]; exact opsW_in (h a ha))
theorem CodT.drawI {id n : Nat} (ts : List Nat) (hm : P.follows .mixedOrders = true) (hn : ops.size = n) (hI : Inv w0 Z w A)
    (h : ∀ w, Inv w0 Z w A → GmT P ops (NoPanic Q) (fun w => Inv w0 Z w A) ts N n (lst n []) S w) : CodT ρ P (.region id ops true) Q N S w :=
  CodT.drawL _ ts hm hn (h _ (hI.drawn _))
theorem CodT.meet1 {x : Code} (J : Act → World → Prop) (h : CodT ρ P x (Exit.then J Q) N S w) (k : ∀ a w, J a w → Q .normal a w) : CodT ρ P x Q N S w :=
  fun a ha => wpIn_mono (h a ha) fun e a' w' q => by cases e <;> first | exact k a' w' q | exact q
theorem Qn.of {e : Exit} (h : Qn Q e N S w) (ha : Fr N S a) : Q e a w := h a ha
theorem len_all {α : Type} {en : α → List Value} {sz : Nat} {ys : List α} (h : ∀ y, (en y).length = sz) : ∀ y ∈ ys, (en y).length = sz := fun y _ => h y

theorem Does.yi {d : Nat} {v : Value} (h : Yl P N ops S i (fun w => Inv w0 Z w A) d v) (hI : Inv w0 Z w A) (hk : K ((d, v) :: S) w) : Does P Q N ops i S w K := Does.yl h hI hk

/-! ### equality of arrays of numbers -/
def eqA (xs ys : List Int) : Bool := xs == ys
theorem run_part1 {e : TypeId} {by_ : Nat} {z v : Value} (h : Ty P e false 1 by_ z) {cs : Array Value} {i : Nat} (hv : cs[i]? = some v) : (part e cs i).run P w = .ok v w := by
  obtain ⟨d, hd, hr⟩ := h.row
  have : (isAgg e).run P w = .ok false w := by
    cases d <;> simp [TypeDesc.isRow] at hr <;> simp [isAgg, run_underlying hd]
  simp [part, this, hv]
theorem run_eqArr {t e : TypeId} {n d : Nat} {k k' : IntKind} {by_ : Nat} {z : Value} (ht : P.underlying t = some (.array n e)) (he : P.underlying e = some (.int k')) (hT : Ty P e false 1 by_ z) {xs ys : List Int} (hx : xs.length = n) (hy : ys.length = n) :
    (Op.equalIn (d + 2) t (.agg (cA (Value.int k) xs).toArray) (.agg (cA (Value.int k) ys).toArray)).run P w = .ok (eqA xs ys) w := by
  obtain ⟨ti, hi, e1, _⟩ := hT.get
  have hc : P.cellsOf e = 1 := by simp [Program.cellsOf, hi, e1]
  rw [run_equalIn_array w (d + 1) _ _ ht hi, hc]
  have key : ∀ (m s : Nat), m + s = n → (Op.eqItems (d + 1) e 1 (cA (Value.int k) xs).toArray (cA (Value.int k) ys).toArray (List.range' s m)).run P w = .ok (xs.drop s == ys.drop s) w := by
    intro m
    induction m with
    | zero =>
      intro s hs
      have h1 : xs.drop s = [] := List.drop_eq_nil_of_le (by omega)
      have h2 : ys.drop s = [] := List.drop_eq_nil_of_le (by omega)
      simp [h1, h2, Op.eqItems]
    | succ m ih =>
      intro s hs
      have hlx : s < xs.length := by omega
      have hly : s < ys.length := by omega
      have p1 : (part e (cA (Value.int k) xs).toArray (s * 1)).run P w = .ok (.int k xs[s]) w := run_part1 hT (by simp [cA, hlx])
      have p2 : (part e (cA (Value.int k) ys).toArray (s * 1)).run P w = .ok (.int k ys[s]) w := run_part1 hT (by simp [cA, hly])
      have p3 : (Op.equalIn (d + 1) e (.int k xs[s]) (.int k ys[s])).run P w = .ok (xs[s] == ys[s]) w := by simp [Op.equalIn, run_underlying he]
      rw [List.drop_eq_getElem_cons hlx, List.drop_eq_getElem_cons hly]
      simp only [List.range'_succ, Op.eqItems, Sem.run_bind, p1, p2, p3, Result.andThen_ok, ih (s + 1) (by omega), List.cons_beq_cons]
      cases hb : xs[s] == ys[s] <;> simp [ih (s + 1) (by omega)]
  have := key n 0 (by omega)
  simpa [List.range_eq_range', eqA] using this
/-! ### an array in a block, as a slice -/
theorem Yl.b2sV {d src dst e g o c n : Nat} {xs : List Int} (h : asConv N ops S i = some (d, src, dst, .slice (some ⟨g, o, none⟩) n c)) (hs : P.underlying src = some (.slice e)) (he : P.underlying e = some (.int .u8)) (hd : P.underlying dst = some .string) (hn : xs.length = n)
    (hr : ∀ w, C w → w.rangeAt g o (cA (Value.int .u8) xs)) : Yl P N ops S i C d (.string (strOfNums xs)) := by
  subst hn; exact Yl.b2s h hs he hd hr

/-! ### a part of a string -/
def sx (s : ByteArray) (a b : Int) : ByteArray := s.extract a.toNat b.toNat
def asSlice (N : FN) (ops : Array Oper) (S : Sl) (i : Nat) : Option (Nat × TypeId × Value × Option Value × Option Value) :=
  match sp N ops S i with
  | some o => match o.dst, o.op with
    | some d, .slice T x lo hi none => match ev S x with
      | some v => some (d, T, v, (lo.map (rho S)), (hi.map (rho S)))
      | none => none
    | _, _ => none
  | none => none
theorem asSlice_spec {d : Nat} {T : TypeId} {v : Value} {lo hi : Option Value} (h : asSlice N ops S i = some (d, T, v, lo, hi)) : ∃ o, sp N ops S i = some o ∧ o.dst = some d ∧ execOp (rho S) o = (do pure (Next.value (← Instr.sliceAt T v lo hi none)) : Sem Next) := by
  unfold asSlice at h
  split at h
  · rename_i o hs
    split at h
    · rename_i d' T' x lo' hi' e1 e2
      split at h
      · rename_i v' hv
        cases h
        refine ⟨o, hs, e1, ?_⟩
        have : rho S x = v := by simp [rho, hv]
        simp only [execOp, e2, this, Option.map_none]
      · cases h
    · cases h
  · cases h
theorem run_sliceStr {T : TypeId} {s : ByteArray} {lo hi : Option Value} {a b : Int} (ht : P.underlying T = some .string) (hlo : lo = some (.int .i64 a) ∨ lo = none ∧ a = 0) (hhi : hi = some (.int .i64 b) ∨ hi = none ∧ b = s.size) (h : 0 ≤ a ∧ a ≤ b ∧ b ≤ (s.size : Int)) :
    (Instr.sliceAt T (.string s) lo hi none).run P w = .ok (.string (sx s a b)) w := by
  obtain ⟨h0, h1, h2⟩ := h
  obtain ⟨a', rfl⟩ := Int.eq_ofNat_of_zero_le h0
  obtain ⟨b', rfl⟩ := Int.eq_ofNat_of_zero_le (Int.le_trans h0 h1)
  have e1 : a' ≤ b' := by omega
  have e2 : b' ≤ s.size := by omega
  rcases hlo with rfl | ⟨rfl, e3⟩ <;> rcases hhi with rfl | ⟨rfl, e4⟩ <;>
    simp_all [Instr.sliceAt, Instr.slice, run_underlying ht, Instr.sliceBounds, Instr.sliceBound, asIntOf, sx]
theorem Yl.sliceStr11 {d T : Nat} {s : ByteArray} {lo hi : Int} (h : asSlice N ops S i = some (d, T, .string s, some (.int .i64 lo), some (.int .i64 hi))) (ht : P.underlying T = some .string) (hb : 0 ≤ lo ∧ lo ≤ hi ∧ hi ≤ (s.size : Int)) : Yl P N ops S i C d (.string (sx s lo hi)) := by
  obtain ⟨o, hs, hd, he⟩ := asSlice_spec h
  exact ⟨o, hs, hd, fun w _ => by rw [he]; simp [run_sliceStr (P := P) (w := w) ht (.inl rfl) (.inl rfl) hb]⟩
theorem Yl.sliceStr10 {d T : Nat} {s : ByteArray} {lo : Int} (h : asSlice N ops S i = some (d, T, .string s, some (.int .i64 lo), none)) (ht : P.underlying T = some .string) (hb : 0 ≤ lo ∧ lo ≤ (s.size : Int) ∧ (s.size : Int) ≤ (s.size : Int)) : Yl P N ops S i C d (.string (sx s lo (s.size : Int))) := by
  obtain ⟨o, hs, hd, he⟩ := asSlice_spec h
  exact ⟨o, hs, hd, fun w _ => by rw [he]; simp [run_sliceStr (P := P) (w := w) ht (.inl rfl) (.inr ⟨rfl, rfl⟩) hb]⟩
theorem Yl.sliceStr01 {d T : Nat} {s : ByteArray} {hi : Int} (h : asSlice N ops S i = some (d, T, .string s, none, some (.int .i64 hi))) (ht : P.underlying T = some .string) (hb : (0 : Int) ≤ 0 ∧ 0 ≤ hi ∧ hi ≤ (s.size : Int)) : Yl P N ops S i C d (.string (sx s 0 hi)) := by
  obtain ⟨o, hs, hd, he⟩ := asSlice_spec h
  exact ⟨o, hs, hd, fun w _ => by rw [he]; simp [run_sliceStr (P := P) (w := w) ht (.inr ⟨rfl, rfl⟩) (.inl rfl) hb]⟩

/-! ### stores into slices of the call's own; copy -/
theorem lset_right : ∀ (vs a b : List Value) (o : Nat), lset (a ++ b) (a.length + o) vs = a ++ lset b o vs
  | [], _, _, _ => rfl
  | v :: r, a, b, o => by
    simp only [lset]
    rw [List.set_append_right _ _ (by omega), Nat.add_sub_cancel_left, Nat.add_assoc]
    exact lset_right r a _ (o + 1)
theorem lset_left : ∀ (vs a b : List Value) (o : Nat), o + vs.length ≤ a.length → lset (a ++ b) o vs = lset a o vs ++ b
  | [], _, _, _, _ => rfl
  | v :: r, a, b, o, h => by
    simp only [List.length_cons] at h
    simp only [lset]
    rw [List.set_append_left _ _ (by omega)]
    exact lset_left r _ b (o + 1) (by simp; omega)
theorem flat_set {α : Type} {en : α → List Value} {sz : Nat} (u : α) (k : Nat) (vs : List Value) (hk : k + vs.length ≤ sz) : ∀ (ys : List α) (i : Nat) (hl : ∀ y ∈ ys, (en y).length = sz) (hi : i < ys.length), lset (en ys[i]) k vs = en u →
    lset (ys.flatMap en) (i * sz + k) vs = (ys.set i u).flatMap en
  | y :: r, 0, hl, _, h => by
    simp only [List.getElem_cons_zero] at h
    simp only [List.flatMap_cons, Nat.zero_mul, Nat.zero_add, List.set_cons_zero]
    rw [lset_left _ _ _ _ (by rw [hl y (by simp)]; exact hk), h]
  | y :: r, i + 1, hl, hi, h => by
    have hy := hl y (by simp)
    simp only [List.flatMap_cons, List.set_cons_succ]
    rw [show (i + 1) * sz + k = (en y).length + (i * sz + k) by rw [hy, Nat.add_mul]; omega, lset_right, flat_set u k vs hk r i (fun z hz => hl z (by simp [hz])) (by simpa using hi) (by simpa using h)]
theorem Does.storeElem {α : Type} [Inhabited α] {en : α → List Value} {sz sz' : Nat} {Ad : Option Addr} {c : Nat} {ys : List α} {E T : TypeId} {g k : Nat} {j : Int} {row : Bool} {by_ : Nat} {z v : Value} {vs : List Value} (u : α) (h : asStore N ops S i = some (T, .pointer (some ⟨g, 0 + j.toNat * sz + k, none⟩), v)) (ht : Ty P T row sz' by_ z)
    (hA : Ad = some ⟨g, 0, none⟩) (hI : Inv w0 Z w (star (ownS E en sz Ad c ys) R)) (h0 : 0 ≤ j) (hj : j < ys.length) (hv : v.cells.toList = vs) (hl : vs.length = sz') (hk' : Nat.ble (k + sz') sz = true) (h1 : vs.all (·.oneCell') = true)
    (hu : lset (en (gt ys j)) k vs = en u) (hk : ∀ w', Inv w0 Z w' (star (ownS E en sz Ad c (st ys j u)) R) → K S w') : Does P Q N ops i S w K := by
  obtain ⟨hlt, e⟩ := gt_eq h0 hj
  have hf := ownS_facts hI
  obtain ⟨g', l, fz, hA', h2, h3, h4, h5⟩ := ownS_open hI (by omega)
  subst hA
  cases hA'
  have hk2 := Nat.le_of_ble_eq_true hk'
  have hmul : (j.toNat + 1) * sz ≤ ys.length * sz := Nat.mul_le_mul_right _ hlt
  have hmul2 : ys.length * sz ≤ c * sz := Nat.mul_le_mul_right _ hf.1
  rw [Nat.add_mul] at hmul
  have hlen := flat_length ys hf.2.2
  have hsz : (en u).length = sz := by rw [← hu, lset_length, e]; exact hf.2.2 _ (List.getElem_mem _)
  refine Does.storeB (L' := lset l (0 + j.toNat * sz + k) vs) h ht h2 h5.1 hv hl (by rw [h3]; omega) h1 rfl fun w' hI' => hk w' ?_
  refine ownS_shut hI' (by rw [st_length]; exact hf.1) hf.2.1 ?_ (by rw [lset_length]; exact h3) ?_ (by rw [lset_length]; exact h5)
  · intro y hy
    unfold st at hy
    rcases List.mem_or_eq_of_mem_set hy with hy | hy
    · exact hf.2.2 y hy
    · subst hy; exact hsz
  · rw [st_length]
    have hsplit : l = ys.flatMap en ++ l.drop (ys.length * sz) := by rw [← h4, List.take_append_drop]
    rw [hsplit, Nat.zero_add, lset_left _ _ _ _ (by rw [hlen, hl]; omega), flat_set u k vs (by rw [hl]; exact hk2) ys j.toNat hf.2.2 hlt (by rw [← e]; exact hu)]
    have hset : ((ys.set j.toNat u).flatMap en).length = ys.length * sz := by
      rw [flat_length (sz := sz) _ (fun y hy => by
        rcases List.mem_or_eq_of_mem_set hy with hy | hy
        · exact hf.2.2 y hy
        · subst hy; exact hsz), List.length_set]
    rw [← hset, List.take_left]
    rfl
end Go.Cen
