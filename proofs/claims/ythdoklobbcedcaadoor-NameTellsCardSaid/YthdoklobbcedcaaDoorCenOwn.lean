/- Parts of slices of the call's own: what lies behind an index cleared, a beginning kept. No program in sight. -/
import Derived.Test.YthdoklobbcedcaaDoorCenArr
set_option linter.unusedVariables false
set_option linter.unusedSimpArgs false
namespace Go.Cen
variable {ρ : Option Nat} {P : Program} {Q : Exit → Act → World → Prop} {N : FN} {ops : Array Oper} {i : Nat} {S S' : Sl} {w w' w0 : World} {K : Sl → World → Prop} {Z Z' : Hp} {A B R : HP} {C : World → Prop}
variable {α : Type} {en : α → List Value} {sz c : Nat} {Ad : Option Addr} {ys : List α} {E : TypeId}
theorem ownS_addr (h : Inv w0 Z w (star (ownS E en sz Ad c ys) R)) : (Ad = none ∧ c = 0) ∨ ∃ g, Ad = some ⟨g, 0, none⟩ := by
  obtain ⟨_, ⟨x, y, hx, _⟩, _⟩ := h.mem
  rcases hx.2.2.2 with ⟨h1, h2, _⟩ | ⟨g, l, fz, h1, _⟩
  · exact .inl ⟨h1, h2⟩
  · exact .inr ⟨g, h1⟩
theorem ownS_sub0 (h : Inv w0 Z w (star (ownS E en sz Ad c ys) R)) : subA Ad c 0 sz = Ad := by
  rcases ownS_addr h with ⟨rfl, rfl⟩ | ⟨g, rfl⟩
  · rfl
  · simp [subA, Addr.add]
theorem ownS_prefix (h : Inv w0 Z w (star (ownS E en sz Ad c ys) R)) {b : Int} (hb : (0 : Int) ≤ 0 ∧ 0 ≤ b ∧ b ≤ (ys.length : Int)) : Inv w0 Z w (star (ownS E en sz Ad c (sub ys 0 b)) R) := by
  refine h.mono (star_l fun x hx => ?_)
  have e : sub ys 0 b = ys.take b.toNat := by simp [sub]
  obtain ⟨h1, h2, h3, h4⟩ := hx
  rw [e]
  have hl : (ys.take b.toNat).length = b.toNat := by rw [List.length_take]; omega
  refine ⟨fun y hy => h1 y (List.mem_of_mem_take hy), by rw [hl]; omega, h3, ?_⟩
  rcases h4 with h4 | ⟨g, l, fz, g1, g2, g3, g4, g5⟩
  · exact .inl h4
  · refine .inr ⟨g, l, fz, g1, g2, g3, ?_, g5⟩
    rw [hl, flat_take ys h1, ← g4, List.take_take, Nat.min_eq_left]
    exact Nat.mul_le_mul_right _ (by omega)
def clr {α : Type} (z : α) (ys : List α) (lo : Int) : List α := ys.take lo.toNat ++ List.replicate (ys.length - lo.toNat) z
theorem clr_len (z : α) (ys : List α) {lo : Int} (h : 0 ≤ lo ∧ lo ≤ (ys.length : Int)) : (clr z ys lo).length = ys.length := by
  simp [clr]; omega
theorem zero_flat (u0 : α) (hsz : (en u0).length = sz) : ∀ n, (List.replicate n u0).flatMap en = (List.range (n * sz)).map fun k => (en u0)[k % sz]! := by
  intro n
  induction n with
  | zero => simp
  | succ n ih =>
    rw [List.replicate_succ', List.flatMap_append, ih, Nat.add_mul, Nat.one_mul, List.range_add, List.map_append, List.map_map]
    congr 1
    simp only [List.flatMap_cons, List.flatMap_nil, List.append_nil]
    apply List.ext_getElem (by simp [hsz])
    intro j h1 h2
    simp only [List.getElem_map, List.getElem_range, Function.comp]
    rw [Nat.mul_add_mod_self_right, Nat.mod_eq_of_lt (by omega)]
    exact (getElem!_pos (en u0) j h1).symm
theorem zeroCells_flat (u0 : α) (hsz : (en u0).length = sz) (n : Nat) : (Builtin.zeroCells (en u0).toArray n).toList = (List.replicate n u0).flatMap en := by
  rw [zero_flat u0 hsz]
  simp [Builtin.zeroCells, hsz]
def asBuiltinN (N : FN) (ops : Array Oper) (S : Sl) (i : Nat) : Option (Builtin × List TypeId × TypeId × List Value) :=
  match sp N ops S i with
  | some o => match o.dst, o.op with
    | none, .call cc => match cc.callee with
      | .builtin b => match evs S cc.args.toList with | some vs => some (b, cc.argTypes.toList, o.type, vs) | none => none
      | _ => none
    | _, _ => none
  | none => none
theorem builtinN_run {b : Builtin} {ats : List TypeId} {ty : TypeId} {vs : List Value} (h : asBuiltinN N ops S i = some (b, ats, ty, vs)) :
    ∃ o cs, sp N ops S i = some o ∧ o.dst = none ∧ execOp (rho S) o = builtin b ats.toArray ty cs vs.toArray := by
  unfold asBuiltinN at h
  split at h
  · rename_i o hs
    split at h
    · rename_i cc e1 e2
      split at h
      · rename_i b' e3
        split at h
        · rename_i vs' e4
          cases h
          obtain ⟨callee, args, argTypes⟩ := cc
          simp only at e3 e4
          subst e3
          refine ⟨o, (args.map fun | .const _ => true | _ => false), hs, e1, ?_⟩
          have : args.map (rho S) = vs.toArray := by
            apply Array.toList_inj.1
            simpa using evs_rho e4
          obtain ⟨od, oop, oty, opos, oa, og⟩ := o
          simp only at e2
          subst e2
          rw [← this]
          rfl
        · cases h
      · cases h
    · cases h
  · cases h
theorem Does.clearOwn {t ty c' m : Nat} {A' : Option Addr} {lo : Int} {row : Bool} {by_ : Nat} {z : Value} (u0 : α) (h : asBuiltinN N ops S i = some (.clear, [t], ty, [.slice A' m c'])) (ht : P.underlying t = some (.slice E)) (hT : Ty P E row sz by_ z) (hlo : 0 ≤ lo ∧ lo ≤ (ys.length : Int)) (hz : z.cells = (en u0).toArray) (hsz : (en u0).length = sz) (h1 : (en u0).all (·.oneCell') = true)
    (hA : subA Ad c lo sz = A' ∧ m = ys.length - lo.toNat) (hI : Inv w0 Z w (star (ownS E en sz Ad c ys) R)) (hk : ∀ w', Inv w0 Z w' (star (ownS E en sz Ad c (clr u0 ys lo)) R) → K S w') : Does P Q N ops i S w K := by
  obtain ⟨o, cs, hs', hd, he⟩ := builtinN_run h
  obtain ⟨hA, rfl⟩ := hA
  obtain ⟨ti, hi, e1, e2, e3⟩ := hT.get
  have hf := ownS_facts hI
  have hz0 : (zeroValue E).run P w = .ok z w := by simp [zeroValue, typeInfo, hi, e3]
  by_cases hn : ys.length - lo.toNat = 0
  · have hc : clr u0 ys lo = ys := by
      unfold clr
      rw [hn, List.take_of_length_le (by omega)]; simp
    rw [hc] at hk
    refine Does.yield hs' (v := .tuple #[]) (w' := w) ?_ (by rw [hd]; exact hk w hI)
    rw [he, hn]
    cases A' with
    | none => simp [builtin, Builtin.clear_, run_underlying ht]
    | some ad => simp [builtin, Builtin.clear_, run_underlying ht]
  · rcases ownS_addr hI with ⟨rfl, rfl⟩ | ⟨g, rfl⟩
    · omega
    obtain ⟨g', l, fz, hg, k1, k2, k3, k4⟩ := ownS_open hI (by omega)
    cases hg
    have hA' : A' = some ⟨g, lo.toNat * sz, none⟩ := by
      rw [← hA]
      unfold subA
      rw [if_neg (by omega)]
      simp [Addr.add_mid]
    subst hA'
    have hb := k1.block
    have hzl : (Builtin.zeroCells z.cells (ys.length - lo.toNat)).toList = (List.replicate (ys.length - lo.toNat) u0).flatMap en := by rw [hz]; exact zeroCells_flat u0 hsz _
    have hall : ∀ y ∈ List.replicate (ys.length - lo.toNat) u0, (en y).length = sz := fun y hy => by rw [List.eq_of_mem_replicate hy]; exact hsz
    have hlen := flat_length _ hall
    simp only [List.length_replicate] at hlen
    have hfit : lo.toNat * sz + ((List.replicate (ys.length - lo.toNat) u0).flatMap en).length ≤ ys.length * sz := by
      rw [hlen, ← Nat.add_mul]; exact Nat.mul_le_mul_right _ (by omega)
    have hfit2 : ys.length * sz ≤ l.length := by rw [k2]; exact Nat.mul_le_mul_right _ hf.1
    have hst := run_storeCells_cells (P := P) g (lo.toNat * sz) ((List.replicate (ys.length - lo.toNat) u0).flatMap en) 0 w
      (fun j hj => by rw [cell_at hb]; simp; omega)
      (fun j hj => frozen_at hb k4 (by omega))
      (fun x hx => by
        obtain ⟨y, hy, h2⟩ := List.mem_flatMap.1 hx
        rw [List.eq_of_mem_replicate hy] at h2
        exact List.all_eq_true.1 h1 x h2)
    simp only [Nat.add_zero] at hst
    refine Does.yield hs' (v := .tuple #[]) (w' := w.setCells g (lo.toNat * sz) ((List.replicate (ys.length - lo.toNat) u0).flatMap en)) ?_ ?_
    · rw [he]
      obtain ⟨n, hn'⟩ : ∃ n, ys.length - lo.toNat = n + 1 := ⟨ys.length - lo.toNat - 1, by omega⟩
      rw [hn'] at hzl hst ⊢
      simp [builtin, Builtin.clear_, run_underlying ht, hz0, hzl, hst]
    · rw [hd]
      refine hk _ ?_
      obtain ⟨s1, s2, s3, s4⟩ := setCells_same g ((List.replicate (ys.length - lo.toNat) u0).flatMap en) (lo.toNat * sz) w
      have hp := k1.put (setCells_heap g _ (lo.toNat * sz) w l hb) s4 s1 s2 s3
      refine ownS_shut hp (by rw [clr_len _ _ hlo]; exact hf.1) hf.2.1 ?_ (by rw [lset_length]; exact k2) ?_ (by rw [lset_length]; exact k4)
      · intro y hy
        rcases List.mem_append.1 hy with hy | hy
        · exact hf.2.2 y (List.mem_of_mem_take hy)
        · rw [List.eq_of_mem_replicate hy]; exact hsz
      · rw [clr_len _ _ hlo, lset_eq _ _ _ (by omega)]
        have ht1 : (l.take (lo.toNat * sz)) = (ys.take lo.toNat).flatMap en := by
          rw [flat_take ys hf.2.2, ← k3, List.take_take, Nat.min_eq_left]
          exact Nat.mul_le_mul_right _ (by omega)
        have hlt : (l.take (lo.toNat * sz)).length = lo.toNat * sz := by rw [List.length_take]; omega
        unfold clr
        rw [List.flatMap_append, ← ht1, List.take_append_of_le_length (by
          simp only [List.length_append, hlt, hlen, ← Nat.add_mul]
          exact Nat.mul_le_mul_right _ (by omega)), List.take_of_length_le (by
          simp only [List.length_append, hlt, hlen, ← Nat.add_mul]
          exact Nat.mul_le_mul_right _ (by omega))]
end Go.Cen
namespace Go.Cen
variable {P : Program} {Q : Exit → Act → World → Prop} {N : FN} {ops : Array Oper} {i : Nat} {S : Sl} {w w0 : World} {K : Sl → World → Prop} {Z : Hp} {A : HP}
/-- A slice of nothing that is not nil. -/
theorem Does.buildSlice0 {α : Type} {en : α → List Value} {d : Nat} {T E : TypeId} {row : Bool} {sz by_ : Nat} {z : Value} (h : asBuildSlice N ops S i = some (d, T, 0, [])) (ht : P.underlying T = some (.slice E)) (hT : Ty P E row sz by_ z)
    (hI : Inv w0 Z w A) (hk : ∀ g w', Inv w0 Z w' (star (ownS E en sz (some ⟨g, 0, none⟩) 0 ([] : List α)) A) → K ((d, .slice (some ⟨g, 0, none⟩) ([] : List α).length 0) :: S) w') : Does P Q N ops i S w K := by
  obtain ⟨ti, hi, e1, e2, e3⟩ := hT.get
  unfold asBuildSlice at h
  split at h
  · rename_i o hs
    split at h
    · rename_i d' T' n' ps' e4 e5
      split at h
      · rename_i vs hv
        simp only [Option.some.injEq, Prod.mk.injEq] at h
        obtain ⟨rfl, rfl, rfl, h4⟩ := h
        have hp : ps' = #[] := by
          have h5 := congrArg List.length h4
          have h6 : vs.length = ps'.size := by rw [← evs_rho hv]; simp
          simp [h6] at h5
          exact h5
        subst hp
        refine Does.yield hs (v := .slice (some ⟨w.heap.size, 0, none⟩) 0 0) (w' := { w with heap := w.heap.push (.cells #[] E (0, 0)) }) ?_ ?_
        · simp only [execOp, e5, Instr.buildSlice, Sem.run_bind, run_underlying ht, Result.andThen_ok, sizeOf, typeInfo, run_program, hi, Sem.run_pure, Nat.zero_mul]
          have e0 : Array.map (fun x => (default : Value)) (Array.range 0) = #[] := by apply Array.ext' ; simp
          simp [Instr.fill, newRow, newObj, Sem.run]
          rw [e0]
        · rw [e4]
          refine hk _ _ ?_
          have hI' := hI.new (.cells ([] : List Value).toArray E (0, 0))
          exact ownS_shut hI' (Nat.le_refl _) (Nat.zero_le _) (fun _ h => by cases h) (by simp) (by simp) (.inr (Nat.le_refl _))
      · cases h
    · cases h
  · cases h
theorem RdS.getC {α : Type} [Inhabited α] {en : α → List Value} {Z : Hp} {sz g o c n : Nat} {ys : List α} (h : RdS Z en sz (some ⟨g, o, none⟩) c ys) (hn : ys.length = n) {j : Int} (h0 : 0 ≤ j) (hj : j < (n : Int)) :
    (∀ (w0 w : World) (A : HP), Inv w0 Z w A → w.rangeAt g (o + j.toNat * sz) (en (gt ys j))) ∧ (en (gt ys j)).length = sz := by
  subst hn
  obtain ⟨g', o', e, a, b⟩ := RdS.get h h0 hj
  cases e
  exact ⟨a, b⟩
end Go.Cen
