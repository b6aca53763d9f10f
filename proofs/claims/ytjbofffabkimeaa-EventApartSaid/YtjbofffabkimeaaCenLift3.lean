/- Slices made, parts of slices, calls of what has no body. No program in sight. -/
import Derived.Test.YtjbofffabkimeaaCenLift2
import Derived.Laws.MakeOwn
set_option linter.unusedVariables false
set_option linter.unusedSimpArgs false
namespace Go.Cen
variable {P : Program} {Q : Exit → Act → World → Prop} {N : FN} {ops : Array Oper} {i : Nat} {S S' : Sl} {w w' w0 : World} {K : Sl → World → Prop} {Z Z' : Hp} {A R : HP} {C : World → Prop}

/-! ### a call of what has no body -/
theorem Does.ext {d : Option Nat} {n : FuncId} {vs : List Value} {v : Value} (h : asCall N ops S i = some (d, n, vs)) (hn : (callFunc n vs.toArray).run P w = .ok (.value v) w)
    (hk : K (putS S d v) w) : Does P Q N ops i S w K := by
  unfold asCall at h
  split at h
  · rename_i o hs
    split at h
    · rename_i cc e2
      split at h
      · rename_i f e3
        split at h
        · rename_i n' fs cp vs' h1 h2
          cases h
          refine Does.yield hs (v := v) (w' := w) ?_ hk
          obtain ⟨callee, args, argTypes⟩ := cc
          simp only at e3 h2
          subst e3
          have : args.map (rho S) = vs'.toArray := by
            apply Array.toList_inj.1
            simpa using evs_rho h2
          have hf : rho S f = .func (.func n) fs cp := by simp [rho, h1]
          have e : fs ++ vs'.toArray ++ cp = (fs.toList ++ vs' ++ cp.toList).toArray := by
            apply Array.toList_inj.1
            simp
          simp only [execOp, e2, resolve, hf, this, Deferred.ofValue, Sem.run_bind, Sem.run_pure, Result.andThen_ok, invoke]
          rw [e]
          exact hn
        · cases h
      · cases h
    · cases h
  · cases h

theorem Inv.eqA {A' : HP} (h : Inv w0 Z w A) (e : A = A') : Inv w0 Z w A' := e ▸ h
/-! ### parts of slices -/
def sub {α : Type} (xs : List α) (a b : Int) : List α := (xs.drop a.toNat).take (b.toNat - a.toNat)
def subA (A : Option Addr) (c : Nat) (a : Int) (sz : Nat) : Option Addr := if c = a.toNat then A else A.map (·.add (a.toNat * sz))
theorem sub_length {α : Type} (xs : List α) {a b : Int} (h : 0 ≤ a ∧ a ≤ b ∧ b ≤ xs.length) : (sub xs a b).length = b.toNat - a.toNat := by
  simp [sub]; omega
variable {α : Type} {en : α → List Value} {sz : Nat} {Ad : Option Addr} {c : Nat} {ys : List α} {E : TypeId}
theorem flat_drop (ys : List α) (hl : ∀ y ∈ ys, (en y).length = sz) (n : Nat) : (ys.drop n).flatMap en = (ys.flatMap en).drop (n * sz) := by
  induction ys generalizing n with
  | nil => simp
  | cons y r ih =>
    cases n with
    | zero => simp
    | succ n =>
      have hy := hl y (by simp)
      simp only [List.drop_succ_cons, List.flatMap_cons]
      have e : (n + 1) * sz = (en y).length + n * sz := by rw [hy, Nat.add_mul]; omega
      rw [ih (fun z hz => hl z (by simp [hz])) n, e, List.drop_append, List.drop_of_length_le (Nat.le_add_right _ _)]
      simp
theorem flat_take (ys : List α) (hl : ∀ y ∈ ys, (en y).length = sz) (n : Nat) : (ys.take n).flatMap en = (ys.flatMap en).take (n * sz) := by
  induction ys generalizing n with
  | nil => simp
  | cons y r ih =>
    cases n with
    | zero => simp
    | succ n =>
      have hy := hl y (by simp)
      simp only [List.take_succ_cons, List.flatMap_cons]
      have e : (n + 1) * sz = (en y).length + n * sz := by rw [hy, Nat.add_mul]; omega
      rw [ih (fun z hz => hl z (by simp [hz])) n, e, List.take_append, List.take_of_length_le (Nat.le_add_right _ _)]
      simp
theorem RdS.sub (h : RdS Z en sz Ad c ys) {a b : Int} (hb : 0 ≤ a ∧ a ≤ b ∧ b ≤ ys.length) : RdS Z en sz (subA Ad c a sz) (c - a.toNat) (sub ys a b) := by
  obtain ⟨h1, h2, h3, h4⟩ := h
  have hmem : ∀ y ∈ Cen.sub ys a b, y ∈ ys := fun y hy => List.mem_of_mem_drop (List.mem_of_mem_take hy)
  refine ⟨by rw [sub_length ys hb]; omega, by omega, fun y hy => h3 y (hmem y hy), fun hn => ?_⟩
  have hlen : (Cen.sub ys a b).length ≠ 0 := fun e => hn (List.length_eq_zero_iff.1 e)
  rw [sub_length ys hb] at hlen
  obtain ⟨g, o, l, T, fz, rfl, hz, hc⟩ := h4 (fun e => by subst e; simp at hb; omega)
  refine ⟨g, o + a.toNat * sz, l, T, fz, ?_, hz, fun j u hu => ?_⟩
  · unfold subA
    rw [if_neg (by omega)]
    simp [Addr.add_mid]
  · have hu' : ((ys.drop a.toNat).flatMap en)[j]? = some u := by
      unfold Cen.sub at hu
      rw [flat_take _ (fun y hy => h3 y (List.mem_of_mem_drop hy)), List.getElem?_take] at hu
      split at hu
      · exact hu
      · cases hu
    rw [flat_drop ys h3, List.getElem?_drop] at hu'
    have := hc _ _ hu'
    rw [Nat.add_assoc]; exact this
theorem run_sliceS {T : TypeId} {by_ : Nat} {z : Value} {row : Bool} {n : Nat} {lo hi : Option Value} {a b : Int} (ht : P.underlying T = some (.slice E)) (hT : Ty P E row sz by_ z)
    (hlo : (∃ k, lo = some (.int k a)) ∨ lo = none ∧ a = 0) (hhi : (∃ k, hi = some (.int k b)) ∨ hi = none ∧ b = n) (h : 0 ≤ a ∧ a ≤ b ∧ b ≤ (n : Int)) (hc : n ≤ c) :
    (Instr.sliceAt T (.slice Ad n c) lo hi none).run P w = .ok (.slice (subA Ad c a sz) (b.toNat - a.toNat) (c - a.toNat)) w := by
  obtain ⟨h0, h1, h2⟩ := h
  obtain ⟨ti, hi', e1, _⟩ := hT.get
  obtain ⟨a', rfl⟩ := Int.eq_ofNat_of_zero_le h0
  obtain ⟨b', rfl⟩ := Int.eq_ofNat_of_zero_le (Int.le_trans h0 h1)
  have e1 : a' ≤ b' := by omega
  have e2 : b' ≤ n := by omega
  have e3 : b' ≤ c := by omega
  rcases hlo with ⟨k, rfl⟩ | ⟨rfl, e4⟩ <;> rcases hhi with ⟨k', rfl⟩ | ⟨rfl, e5⟩ <;>
    simp_all [Instr.sliceAt, Instr.slice, run_underlying ht, Instr.sliceBounds, Instr.sliceBound, asIntOf, sizeOf, typeInfo, subA]
theorem Yl.sub {d T : Nat} {by_ : Nat} {z : Value} {row : Bool} {n m c' : Nat} {A' : Option Addr} {lo hi : Option Value} {a b : Int} (h : asSlice N ops S i = some (d, T, .slice Ad n c, lo, hi)) (ht : P.underlying T = some (.slice E)) (hT : Ty P E row sz by_ z)
    (hlo : (∃ k, lo = some (.int k a)) ∨ lo = none ∧ a = 0) (hhi : (∃ k, hi = some (.int k b)) ∨ hi = none ∧ b = n) (hb : 0 ≤ a ∧ a ≤ b ∧ b ≤ (n : Int)) (hc : n ≤ c)
    (hm : m = b.toNat - a.toNat) (hA : subA Ad c a sz = A') (hc' : c - a.toNat = c') : Yl P N ops S i C d (.slice A' m c') := by
  obtain ⟨o, hs, hd, he⟩ := asSlice_spec h
  subst hm hA hc'
  exact ⟨o, hs, hd, fun w _ => by rw [he]; simp [run_sliceS (P := P) (w := w) ht hT hlo hhi hb hc]⟩
/-- Bytes that are read, as a string. -/
theorem Yl.b2sR {d src dst e c : Nat} {xs : List Int} (h : asConv N ops S i = some (d, src, dst, .slice Ad xs.length c)) (hs : P.underlying src = some (.slice e)) (he : P.underlying e = some (.int .u8)) (hd : P.underlying dst = some .string)
    (hR : RdS Z (cI .u8) 1 Ad c xs) : Yl P N ops S i (fun w => Inv w0 Z w A) d (.string (strOfNums xs)) := by
  by_cases hx : xs = []
  · subst hx
    cases Ad with
    | none => exact Yl.b2sNil h hs he hd
    | some ad =>
      obtain ⟨b, o, sp⟩ := ad
      obtain ⟨op, hs', hd', he'⟩ := asConv_spec h
      refine ⟨op, hs', hd', fun w hC => ?_⟩
      rw [he']
      have e0 : strOfNums [] = ByteArray.empty := by decide +kernel
      have hl : (loadCells ⟨b, o, sp⟩ 0).run P w = .ok #[] w := by simpa using run_loadCells_list (P := P) w ⟨b, o, sp⟩ [] (by simp)
      simp [run_convert_bytes_string w src dst e _ 0 c hs he hd, Conv.bytesToString, hl, e0]
  · have hx' := hR.2.2.2 hx
    obtain ⟨g, o, l, T, fz, rfl, hz, hc⟩ := hx'
    refine Yl.b2s h hs he hd fun w hC => ?_
    intro j v hv
    simp only [World.cell?, hC.zone hz]
    rw [flat_cI] at hc
    simpa using hc j v hv

/-! ### make -/
end Go.Cen
