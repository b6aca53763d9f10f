/- Equality of structs; arrays out of slices. No program in sight. -/
import Derived.Test.YtjbofffabkimeaaCenLift4
import Derived.Laws.StructEq
set_option linter.unusedVariables false
set_option linter.unusedSimpArgs false
namespace Go.Cen
variable {P : Program} {Q : Exit → Act → World → Prop} {N : FN} {ops : Array Oper} {i : Nat} {S S' : Sl} {w w' w0 : World} {K : Sl → World → Prop} {C : World → Prop}
/-- The fields of two structs, one behind the other: equal, as told. -/
inductive EqF (P : Program) (xs ys : Array Value) : List Field → Bool → Prop
  | nil : EqF P xs ys [] true
  | cons {f : Field} {fs : List Field} {u v : Value} {b r : Bool} (hn : (f.name != "_") = true) (hx : ∀ w, (part f.type xs f.offset).run P w = .ok u w) (hy : ∀ w, (part f.type ys f.offset).run P w = .ok v w)
      (he : ∀ w, (Op.equalIn 9999 f.type u v).run P w = .ok b w) (hr : EqF P xs ys fs r) : EqF P xs ys (f :: fs) (b && r)
theorem EqF.run {xs ys : Array Value} {fs : List Field} {r : Bool} (h : EqF P xs ys fs r) : (Op.eqFields 9999 xs ys fs).run P w = .ok r w := by
  induction h with
  | nil => simp [Op.eqFields]
  | cons hn hx hy he hr ih =>
    rename_i f fs u v b r
    have hn' : f.name ≠ "_" := by simpa using hn
    simp only [Op.eqFields, hn', ne_eq, not_false_eq_true, if_true, Sem.run_bind, hx, hy, he, Result.andThen_ok]
    cases b
    · simp
    · simpa using ih
theorem part1 {e : TypeId} {by_ : Nat} {z v : Value} (h : Ty P e false 1 by_ z) {cs : List Value} {i : Nat} (hv : cs[i]? = some v) : ∀ w, (part e cs.toArray i).run P w = .ok v w := fun w => run_part1 h (by simpa using hv)
theorem partN {e : TypeId} {sz by_ : Nat} {z : Value} (h : Ty P e true sz by_ z) {cs ds : List Value} {i : Nat} (hv : (cs.drop i).take sz = ds) : ∀ w, (part e cs.toArray i).run P w = .ok (.agg ds.toArray) w := fun w => by
  obtain ⟨d, hd, hr⟩ := h.row
  obtain ⟨ti, hi, e1, _⟩ := h.get
  have ha : (isAgg e).run P w = .ok true w := by
    cases d <;> simp [TypeDesc.isRow] at hr <;> simp [isAgg, run_underlying hd]
  simp only [part, Sem.run_bind, ha, Result.andThen_ok, if_true, sizeOf, typeInfo, run_program, hi, e1, Sem.run_pure]
  congr 2
  apply Array.toList_inj.1
  simp [← hv, List.extract_eq_take_drop]
theorem eqI {t : TypeId} {k k' : IntKind} {a b : Int} (h : P.underlying t = some (.int k')) : ∀ w, (Op.equalIn 9999 t (.int k a) (.int k b)).run P w = .ok (a == b) w := fun w => run_equalIn_int w 9998 t k k' a b h
theorem eqS {t : TypeId} {a b : ByteArray} (h : P.underlying t = some .string) : ∀ w, (Op.equalIn 9999 t (.string a) (.string b)).run P w = .ok (seq a b) w := fun w => run_equalIn_string w 9998 t a b h
theorem eqAr {t e : TypeId} {n : Nat} {k k' : IntKind} {by_ : Nat} {z : Value} (ht : P.underlying t = some (.array n e)) (he : P.underlying e = some (.int k')) (hT : Ty P e false 1 by_ z) {xs ys : List Int} (hx : xs.length = n) (hy : ys.length = n) :
    ∀ w, (Op.equalIn 9999 t (.agg (cA (Value.int k) xs).toArray) (.agg (cA (Value.int k) ys).toArray)).run P w = .ok (eqA xs ys) w := fun w => run_eqArr (d := 9997) ht he hT hx hy
theorem Yl.eqlS {d : Nat} {T : TypeId} {xs ys : List Value} {fs : Array Field} {r : Bool} (h : asBin N ops S i = some (d, .eql, T, .agg xs.toArray, .agg ys.toArray)) (ht : P.underlying T = some (.struct fs)) (hp : P.stoodInHeld T = false) (hg : P.eqGuardType P.depth T = false)
    (he : EqF P xs.toArray ys.toArray fs.toList r) : Yl P N ops S i C d (.bool r) := by
  obtain ⟨o, hs, hd, x', y', he'⟩ := asBin_spec h
  refine ⟨o, hs, hd, fun w _ => ?_⟩
  rw [he']
  have hf : P.fieldsOf T = fs := by simp [Program.fieldsOf, ht]
  have := run_equalIn_struct (P := P) w 9999 T xs.toArray ys.toArray (by rw [hf]; exact ht) hp
  rw [hf, he.run] at this
  simp [eqGuard, run_program, hg, binOp, Op.equal, Op.maxDepth, this]
theorem Yl.neqS {d : Nat} {T : TypeId} {xs ys : List Value} {fs : Array Field} {r : Bool} (h : asBin N ops S i = some (d, .neq, T, .agg xs.toArray, .agg ys.toArray)) (ht : P.underlying T = some (.struct fs)) (hp : P.stoodInHeld T = false) (hg : P.eqGuardType P.depth T = false)
    (he : EqF P xs.toArray ys.toArray fs.toList r) : Yl P N ops S i C d (.bool (!r)) := by
  obtain ⟨o, hs, hd, x', y', he'⟩ := asBin_spec h
  refine ⟨o, hs, hd, fun w _ => ?_⟩
  rw [he']
  have hf : P.fieldsOf T = fs := by simp [Program.fieldsOf, ht]
  have := run_equalIn_struct (P := P) w 9999 T xs.toArray ys.toArray (by rw [hf]; exact ht) hp
  rw [hf, he.run] at this
  simp [eqGuard, run_program, hg, binOp, Op.equal, Op.maxDepth, this]

/-! ### an array out of a slice -/
theorem ownS_all {α : Type} {en : α → List Value} {sz : Nat} {Ad : Option Addr} {c : Nat} {ys : List α} {E : TypeId} {Z : Hp} {R : HP} (hI : Inv w0 Z w (star (ownS E en sz Ad c ys) R)) (hn : 0 < ys.length) :
    ∃ g, Ad = some ⟨g, 0, none⟩ ∧ ∀ (w0 w : World) (R : HP), Inv w0 Z w (star (ownS E en sz Ad c ys) R) → w.rangeAt g 0 (ys.flatMap en) := by
  have hne : ys ≠ [] := by rintro rfl; simp at hn
  obtain ⟨g, rfl, _⟩ := ownS_range hI hne
  refine ⟨g, rfl, fun w0 w R h => ?_⟩
  obtain ⟨g', e, hr⟩ := ownS_range h hne
  cases e
  exact hr
def asArrPtr (N : FN) (ops : Array Oper) (S : Sl) (i : Nat) : Option (Nat × TypeId × Value) :=
  match sp N ops S i with
  | some o => match o.dst, o.op with
    | some d, .sliceToArrayPointer T x => match ev S x with | some v => some (d, T, v) | none => none
    | _, _ => none
  | none => none
theorem Yl.arrPtr {d T n m c : Nat} {E : TypeId} {Ad : Option Addr} (h : asArrPtr N ops S i = some (d, T, .slice Ad n c)) (ht : P.underlying T = some (.array m E)) (hm : m ≤ n) : Yl P N ops S i C d (.pointer Ad) := by
  unfold asArrPtr at h
  split at h
  · rename_i o hs
    split at h
    · rename_i d' T' x e1 e2
      split at h
      · rename_i v' hv
        cases h
        refine ⟨o, hs, e1, fun w _ => ?_⟩
        have hn : ¬ n < m := by omega
        simp [execOp, e2, rho, hv, Instr.arrayAt, run_underlying ht, hn]
      · cases h
    · cases h
  · cases h
theorem Yl.arrPtr' {d T n m c : Nat} {E : TypeId} {Ad : Option Addr} {ad : Addr} (h : asArrPtr N ops S i = some (d, T, .slice Ad n c)) (ht : P.underlying T = some (.array m E)) (hn : n = m) (hA : Ad = some ad) : Yl P N ops S i C d (.pointer (some ad)) := by
  subst hA; exact Yl.arrPtr h ht (by omega)
end Go.Cen
