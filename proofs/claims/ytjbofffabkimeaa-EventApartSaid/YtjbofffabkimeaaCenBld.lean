/- A pointer field that is nil or points to its own block; unsafe pointers; bytes told as a string where they lie; appends of strings; parts of what is owned. No program in sight. -/
import Derived.Test.YtjbofffabkimeaaCenRf
import Derived.Lib.Builder
import Derived.Lib.UnsafeStr
import Derived.Lib.AppendStr
set_option linter.unusedVariables false
set_option linter.unusedSimpArgs false
namespace Go.Cen
variable {ρ : Option Nat} {P : Program} {Q : Exit → Act → World → Prop} {N : FN} {ops : Array Oper} {i : Nat} {S S' : Sl} {w w' w0 : World} {K : Sl → World → Prop} {Z Z' : Hp} {A B R : HP} {C : World → Prop}
def selfP (b : Nat) (t : Bool) : Value := match t with | true => .pointer (some ⟨b, 0, none⟩) | false => .pointer none
theorem run_eql_ptr_nil {tp te : TypeId} (hp : P.underlying tp = some (.pointer te)) (b : Nat) (t : Bool) : (binOp .eql tp (selfP b t) (.pointer none)).run P w = .ok (.bool (!t)) w := by
  have h : ∀ d : Nat, (Op.equalIn (d + 1) tp (selfP b t) (.pointer none)).run P w = .ok (!t) w := fun d => by
    cases t <;> simp [selfP, Op.equalIn, run_underlying hp]
  simp only [binOp]
  simp [Op.equal, Op.maxDepth, h 9999]
theorem run_neq_ptr_self {tp te : TypeId} {j : TypeInfo} (hp : P.underlying tp = some (.pointer te)) (hte : P.info? te = some j) (b : Nat) (t : Bool) : (binOp .neq tp (selfP b t) (.pointer (some ⟨b, 0, none⟩))).run P w = .ok (.bool (!t)) w := by
  cases t
  · have h : ∀ d : Nat, (Op.equalIn (d + 1) tp (.pointer none) (.pointer (some ⟨b, 0, none⟩))).run P w = .ok false w := fun d => by
      simp [Op.equalIn, run_underlying hp]
    simp only [binOp, selfP]
    simp [Op.equal, Op.maxDepth, h 9999]
  · exact Lib.run_neq_ptr_same (w := w) ⟨b, 0, none⟩ hp hte
theorem Yl.eqlSelf {d b : Nat} {T te : TypeId} {t : Bool} (h : asBin N ops S i = some (d, .eql, T, selfP b t, .pointer none)) (ht : P.underlying T = some (.pointer te)) (hg : P.eqGuardType P.depth T = false) : Yl P N ops S i C d (.bool (!t)) := by
  obtain ⟨o, hs, hd, x', y', he⟩ := asBin_spec h
  refine ⟨o, hs, hd, fun w _ => ?_⟩
  rw [he]
  simp [eqGuard, run_program, hg, run_eql_ptr_nil ht]
theorem Yl.neqSelf {d b : Nat} {T te : TypeId} {t : Bool} {row : Bool} {sz by_ : Nat} {z : Value} (h : asBin N ops S i = some (d, .neq, T, selfP b t, .pointer (some ⟨b, 0, none⟩))) (ht : P.underlying T = some (.pointer te)) (hT : Ty P te row sz by_ z) (hg : P.eqGuardType P.depth T = false) : Yl P N ops S i C d (.bool (!t)) := by
  obtain ⟨o, hs, hd, x', y', he⟩ := asBin_spec h
  obtain ⟨ti, hi, _⟩ := hT.get
  refine ⟨o, hs, hd, fun w _ => ?_⟩
  rw [he]
  simp [eqGuard, run_program, hg, run_neq_ptr_self ht hi]
/-- A pointer to a block of the call's own, as an unsafe one, and back. -/
theorem Yl.toUns {d src dst t b : Nat} {l : List Value} {T : TypeId} {fz : Nat × Nat} {row : Bool} {sz by_ : Nat} {z : Value} (h : asConv N ops S i = some (d, src, dst, .pointer (some ⟨b, 0, none⟩))) (hs : P.underlying src = some (.pointer t)) (hd : P.underlying dst = some .unsafePointer) (hT : Ty P t row sz by_ z) (hsz : Nat.blt 0 sz = true) (hl : Nat.blt 0 l.length = true)
    (hb : ∀ w, C w → w.heap[b]? = some (.cells l.toArray T fz)) : Yl P N ops S i C d (.pointer (some ⟨b, 0, none⟩)) := by
  obtain ⟨op, hs', hd', he⟩ := asConv_spec h
  obtain ⟨ti, hi, e1, _⟩ := hT.get
  refine ⟨op, hs', hd', fun w hC => ?_⟩
  rw [he]
  have h1 := Nat.le_of_ble_eq_true hsz
  have h2 := Nat.le_of_ble_eq_true hl
  have hsh : w.shape? b = some (T, l.length) := by simp [World.shape?, hb w hC]
  simp [Lib.run_to_unsafe (P := P) (w := w) ⟨b, 0, none⟩ hs hd hi (by omega) hsh (by show 0 < l.length; omega)]
theorem Yl.fromUns {d src dst t b : Nat} {l : List Value} {T : TypeId} {fz : Nat × Nat} {row : Bool} {sz by_ : Nat} {z : Value} (n : Nat) (h : asConv N ops S i = some (d, src, dst, .pointer (some ⟨b, 0, none⟩))) (hs : P.underlying src = some .unsafePointer) (hd : P.underlying dst = some (.pointer t)) (hT : Ty P t row sz by_ z) (hn : l.length = n) (hlies : liesAt P P.depth T (n / P.cellsOf T) 0 t 1 = true)
    (hb : ∀ w, C w → w.heap[b]? = some (.cells l.toArray T fz)) : Yl P N ops S i C d (.pointer (some ⟨b, 0, none⟩)) := by
  obtain ⟨op, hs', hd', he⟩ := asConv_spec h
  obtain ⟨ti, hi, e1, _⟩ := hT.get
  refine ⟨op, hs', hd', fun w hC => ?_⟩
  rw [he]
  subst hn
  have hsh : w.shape? b = some (T, l.length) := by simp [World.shape?, hb w hC]
  simp [Lib.run_from_unsafe (P := P) (w := w) ⟨b, 0, none⟩ hs hd hi hsh hlies]

/-! ### more words -/
def bytesOk (xs : List Int) : Bool := xs.all fun x => decide (0 ≤ x) && decide (x < 256)
theorem bytesOk_spec {xs : List Int} (h : bytesOk xs = true) : ∀ x ∈ xs, 0 ≤ x ∧ x < 256 := fun x hx => by
  have := List.all_eq_true.1 h x hx
  simpa using this
/-! ### bytes of the call's own, told as a string where they lie -/
theorem Does.sliceData {α : Type} {en : α → List Value} {sz d t ty E c : Nat} {Ad : Option Addr} {ys : List α} (h : asBuiltin N ops S i = some (d, .unsafeSliceData, [t], ty, [.slice Ad ys.length c])) {e : TypeId} (ht : P.underlying ty = some (.pointer e))
    (hI : Inv w0 Z w (star (ownS E en sz Ad c ys) R)) (hk : ∀ q w', (ys ≠ [] → q = Ad) → Inv w0 Z w' (star (ownS E en sz Ad c ys) R) → K ((d, .pointer q) :: S) w') : Does P Q N ops i S w K := by
  obtain ⟨o, cs, hs', hd, he⟩ := builtin_run h
  have hf := ownS_facts hI
  cases Ad with
  | none =>
    refine Does.yield hs' (v := .pointer none) (w' := w) ?_ (by rw [hd]; exact hk none w (fun _ => rfl) hI)
    rw [he]
    have := Lib.run_unsafeSliceData_nil (P := P) (w := w) #[t] ty ys.length c
    simp only [builtin, List.toArray]
    simp [this]
  | some ad =>
    by_cases hc : c = 0
    · have hy : ys = [] := List.length_eq_zero_iff.1 (by omega)
      obtain ⟨b, o', sp'⟩ := ad
      have hb : ∃ l fz, (⟨b, o', sp'⟩ : Addr) = ⟨b, 0, none⟩ ∧ w.heap[b]? = some (.cells l E fz) := by
        obtain ⟨_, ⟨x, y, hx, hr, dd, rfl⟩, dz, m⟩ := hI.mem
        rcases hx.2.2.2 with ⟨h0, _⟩ | ⟨g, l, fz, h0, rfl, _⟩
        · cases h0
        · cases h0
          refine ⟨l.toArray, fz, rfl, m _ _ ?_⟩
          rw [Hp.join_comm dz]
          exact Hp.le_join_left _ _ _ _ (Hp.le_join_left _ _ _ _ (Hp.one_self _ _))
      obtain ⟨l, fz, e0, hb⟩ := hb
      obtain ⟨rfl, rfl⟩ : o' = 0 ∧ sp' = none := by simpa using e0
      have hsh : w.shape? b = some (E, l.size) := by simp [World.shape?, hb]
      subst hc
      have hI2 := hI.new (.view ⟨b, 0, none⟩ e)
      refine Does.yield hs' (v := .pointer (some ⟨w.heap.size, 0, none⟩)) (w' := { w with heap := w.heap.push (.view ⟨b, 0, none⟩ e) }) ?_ (by rw [hd]; exact hk _ _ (fun h => absurd hy h) hI2.drop)
      rw [he]
      have := Lib.run_unsafeSliceData_zero (P := P) (w := w) #[t] ty e ht ⟨b, 0, none⟩ ys.length (E, l.size) hsh
      simp only [builtin, List.toArray]
      simp [this]
    · refine Does.yield hs' (v := .pointer (some ad)) (w' := w) ?_ (by rw [hd]; exact hk _ w (fun _ => rfl) hI)
      rw [he]
      have := Lib.run_unsafeSliceData_row (P := P) (w := w) #[t] ty ad ys.length c hc
      simp only [builtin, List.toArray]
      simp [this]
theorem strOfNums_list (l : List UInt8) : strOfNums (l.map fun b => (b.toNat : Int)) = ⟨l.toArray⟩ := by
  apply ByteArray.ext
  apply Array.toList_inj.1
  rw [strOfNums_data, List.map_map]
  conv => rhs; rw [← List.map_id l]
  apply List.map_congr_left
  intro a _
  simp
theorem bytes_of {xs : List Int} (h : ∀ x ∈ xs, 0 ≤ x ∧ x < 256) : ∃ l : List UInt8, xs = l.map fun b => (b.toNat : Int) := by
  refine ⟨xs.map fun x => UInt8.ofNat x.toNat, ?_⟩
  rw [List.map_map]
  conv => lhs; rw [← List.map_id xs]
  apply List.map_congr_left
  intro x hx
  obtain ⟨h1, h2⟩ := h x hx
  simp only [Function.comp, id, UInt8.toNat_ofNat']
  omega
theorem Does.unsafeStr {d t it ty e E c : Nat} {Ad q : Option Addr} {xs : List Int} (h : asBuiltin N ops S i = some (d, .unsafeString, [t, it], ty, [.pointer q, .int .i64 xs.length])) (ht : P.underlying t = some (.pointer E)) (hc : P.cellsOf E = 1) (hq : xs ≠ [] → q = Ad) (hx : ∀ x ∈ xs, 0 ≤ x ∧ x < 256)
    (hI : Inv w0 Z w (star (ownS E (cI .u8) 1 Ad c xs) R)) (hk : ∀ Z' w', Z.le Z' → RdS Z' (cI .u8) 1 Ad c xs → Inv w0 Z' w' R → K ((d, .string (strOfNums xs)) :: S) w') : Does P Q N ops i S w K := by
  obtain ⟨o, cs, hs', hd, he⟩ := builtin_run h
  have hf := ownS_facts hI
  by_cases h0 : xs = []
  · subst h0
    obtain ⟨Z', h1, h2, h3⟩ := ownS_freeze hI
    refine Does.yield hs' (v := .string (strOfNums [])) (w' := w) ?_ (by rw [hd]; exact hk Z' w h1 h2 h3)
    rw [he]
    have e0 : strOfNums [] = ByteArray.empty := by decide +kernel
    have := Lib.run_unsafeString_none (P := P) (w := w) t it ty q
    simp only [builtin, List.toArray]
    simp [List.length_nil] at this ⊢
    simp [this, e0]
  · have hl : 0 < xs.length := by cases xs <;> simp at h0 ⊢
    obtain ⟨g, l, fz, rfl, h1, h2, h3, h4⟩ := ownS_open hI (by omega)
    obtain rfl := hq h0
    obtain ⟨bs, rfl⟩ := bytes_of hx
    have hb := h1.block
    have hsh : w.shape? g = some (E, l.length) := by simp [World.shape?, hb]
    have hcell : ∀ j x, bs[j]? = some x → w.cell? ((⟨g, 0, none⟩ : Addr).add j) = some (.int .u8 x.toNat) := fun j x hj => by
      rw [Addr.add_mid, cell_at hb, Nat.zero_add]
      have : (l.take ((bs.map fun b => (b.toNat : Int)).length * 1))[j]? = some (.int .u8 x.toNat) := by
        rw [h3, flat_cI]
        simp [cA, hj]
      rw [List.getElem?_take] at this
      split at this
      · exact this
      · cases this
    have hr := Lib.run_unsafeString_row (P := P) (w := w) t it ty E ht hc g l.length hsh bs (by rintro rfl; exact h0 rfl) (by simp at hf; omega) (by simp [maxLen] at hf; omega) hcell
    have hfr : Inv w0 Z (w.freeze ⟨g, 0, none⟩ bs.length) (star (pt g (.cells l.toArray E (if fz.1 == fz.2 then (0, bs.length) else (min fz.1 0, max fz.2 bs.length)))) R) := by
      refine h1.put ?_ ?_ ?_ ?_ ?_
      · have hne : bs.length ≠ 0 := by simp at hl; omega
        simp only [World.freeze, hne, if_false, Array.getElem?_modify, if_true, hb, Option.map_some]
        obtain ⟨f1, f2⟩ := fz
        simp
      · intro k hk
        have hne : bs.length ≠ 0 := by simp at hl; omega
        simp only [World.freeze, hne, if_false, Array.getElem?_modify]
        rw [if_neg (fun e => hk e.symm)]
      · unfold World.freeze; split <;> rfl
      · unfold World.freeze; split <;> rfl
      · unfold World.freeze; split <;> rfl
    obtain ⟨x, Z', hx', g1, g2, g3⟩ := hfr.freeze
    refine Does.yield hs' (v := .string (strOfNums (bs.map fun b => (b.toNat : Int)))) (w' := w.freeze ⟨g, 0, none⟩ bs.length) ?_ ?_
    · rw [he]
      simp only [builtin, List.toArray, List.length_map] at *
      rw [strOfNums_list]
      simp [hr]
    · rw [hd]
      refine hk Z' _ g1 ⟨hf.1, hf.2.1, hf.2.2, fun _ => ⟨g, 0, l.toArray, E, _, rfl, g2 _ _ (by rw [hx']; exact Hp.one_self _ _), fun j u hu => ?_⟩⟩ g3
      rw [← h3, List.getElem?_take] at hu
      split at hu
      · simpa using hu
      · cases hu

/-! ### appends of strings -/
end Go.Cen
namespace Go.Cen
variable {ρ : Option Nat} {P : Program} {Q : Exit → Act → World → Prop} {N : FN} {ops : Array Oper} {S : Sl} {w w0 : World} {Z : Hp} {A : HP}
theorem CodT.drawC {id n : Nat} {B : HP} (ts : List Nat) (hm : P.follows .mixedOrders = true) (hn : ops.size = n) (hI : Inv w0 Z w A)
    (h : ∀ w, Inv w0 Z w A → GmT P ops (NoPanic Q) (fun w => Inv w0 Z w B) ts N n (lst n []) S w) : CodT ρ P (.region id ops true) Q N S w :=
  CodT.drawL _ ts hm hn (h _ (hI.drawn _))
end Go.Cen
