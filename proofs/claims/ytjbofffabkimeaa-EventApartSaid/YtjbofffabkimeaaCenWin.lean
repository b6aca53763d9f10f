/- A window of a block of bytes that a call turns: an array's part, handed on as a slice. No program in sight. -/
import Derived.Test.YtjbofffabkimeaaCenOwn
import Derived.Test.YtjbofffabkimeaaCenLift3
set_option linter.unusedVariables false
set_option linter.unusedSimpArgs false
namespace Go.Cen
variable {ρ : Option Nat} {P : Program} {Q : Exit → Act → World → Prop} {N : FN} {ops : Array Oper} {S S' : Sl} {a : Act} {w0 w w' : World} {K : Sl → World → Prop} {i : Nat} {Z Z' : Hp} {A B R : HP} {C : World → Prop}
/-- Bytes that stand behind one byte, and before others, in a block of the call's own. -/
def winS (T : TypeId) (p : Value) (post : List Value) (Ad : Option Addr) (c : Nat) (ys : List Int) : HP := fun h =>
  ys.length ≤ c ∧ c ≤ maxLen ∧ ∃ g, Ad = some ⟨g, 1, none⟩ ∧ h = Hp.one g (.cells ([p] ++ (ys.map (Value.int .u8) ++ post)).toArray T (0, 0))
theorem winS_open {T : TypeId} {p : Value} {post : List Value} {Ad : Option Addr} {c : Nat} {ys : List Int} (h : Inv w0 Z w (star (winS T p post Ad c ys) R)) :
    ys.length ≤ c ∧ c ≤ maxLen ∧ ∃ g, Ad = some ⟨g, 1, none⟩ ∧ Inv w0 Z w (star (pt g (.cells ([p] ++ (ys.map (Value.int .u8) ++ post)).toArray T (0, 0))) R) := by
  obtain ⟨_, ⟨x, y, ⟨h1, h2, g, hA, hx⟩, hr, d, rfl⟩, dz, m⟩ := h.mem
  exact ⟨h1, h2, g, hA, h.os, h.tape, h.output, _, ⟨x, y, hx, hr, d, rfl⟩, dz, m⟩
theorem winS_shut {T : TypeId} {p : Value} {post : List Value} {g c : Nat} {ys : List Int} (h : Inv w0 Z w (star (pt g (.cells ([p] ++ (ys.map (Value.int .u8) ++ post)).toArray T (0, 0))) R)) (h1 : ys.length ≤ c) (h2 : c ≤ maxLen) :
    Inv w0 Z w (star (winS T p post (some ⟨g, 1, none⟩) c ys) R) := h.mono (star_l fun x hx => ⟨h1, h2, g, rfl, hx⟩)
theorem winS_get {T : TypeId} {p : Value} {post : List Value} {Ad : Option Addr} {c : Nat} {ys : List Int} (h : Inv w0 Z w (star (winS T p post Ad c ys) R)) {j : Int} (h0 : 0 ≤ j) (hj : j < ys.length) :
    ∃ g, Ad = some ⟨g, 1, none⟩ ∧ True ∧ True := let ⟨_, _, g, hA, _⟩ := winS_open h; ⟨g, hA, trivial, trivial⟩
theorem Does.storeWin {T BT : TypeId} {p : Value} {post : List Value} {Ad : Option Addr} {c g k : Nat} {ys : List Int} {j : Int} {row : Bool} {by_ : Nat} {z v : Value} {vs : List Value} (u : Int) (h : asStore N ops S i = some (T, .pointer (some ⟨g, 1 + j.toNat * 1 + k, none⟩), v)) (ht : Ty P T row 1 by_ z)
    (hA : Ad = some ⟨g, 1, none⟩) (hI : Inv w0 Z w (star (winS BT p post Ad c ys) R)) (h0 : 0 ≤ j) (hj : j < ys.length) (e1 : v = Value.int .u8 u) (e2 : k = 0) (_ : 0 = 0) (_ : 0 = 0) (_ : 0 = 0)
    (hk : ∀ w', Inv w0 Z w' (star (winS BT p post Ad c (st ys j u)) R) → K S w') : Does P Q N ops i S w K := by
  obtain ⟨l1, l2, g', hA', hI2⟩ := winS_open hI
  subst hA
  cases hA'
  subst e1 e2
  obtain ⟨n, rfl⟩ := Int.eq_ofNat_of_zero_le h0
  have hn : n < ys.length := by omega
  refine Does.storeOwn h ht hI2 (.inr (Nat.le_refl _)) rfl (by simp only [List.length_append, List.length_cons, List.length_nil, List.length_map, Int.toNat_natCast]; omega) rfl fun w' hI' => hk w' ?_
  have e : lset ([p] ++ (ys.map (Value.int .u8) ++ post)) (1 + ((n : Nat) : Int).toNat * 1 + 0) (Value.int .u8 u).cells.toList = [p] ++ ((st ys (n : Int) u).map (Value.int .u8) ++ post) := by
    have hc : (Value.int .u8 u).cells.toList = [Value.int .u8 u] := rfl
    rw [hc]
    simp only [lset, Int.toNat_natCast, Nat.mul_one, Nat.add_zero, st]
    rw [Nat.add_comm 1 n, List.singleton_append, List.singleton_append, List.set_cons_succ, List.set_append_left _ _ (by simpa using hn), List.map_set]
  rw [e] at hI'
  exact winS_shut hI' (by simp only [st, List.length_set]; exact l1) l2
theorem winS_freeze {T : TypeId} {p : Value} {post : List Value} {Ad : Option Addr} {c : Nat} {ys : List Int} (h : Inv w0 Z w (star (winS T p post Ad c ys) R)) : ∃ Z', Z.le Z' ∧ RdS Z' (cI .u8) 1 Ad c ys ∧ Inv w0 Z' w R := by
  obtain ⟨l1, l2, g, rfl, hI2⟩ := winS_open h
  obtain ⟨x, Z', hx, h1, h2, h3⟩ := hI2.freeze
  refine ⟨Z', h1, ⟨l1, l2, fun _ _ => rfl, fun hn => ?_⟩, h3⟩
  have hb := h2 g _ (by rw [hx]; exact Hp.one_self _ _)
  refine ⟨g, 1, _, T, (0, 0), rfl, hb, fun j u hj => ?_⟩
  have hf : ys.flatMap (cI .u8) = ys.map (Value.int .u8) := by
    clear l1 l2 h hI2 hx h2 h3 hb hj hn
    induction ys with
    | nil => rfl
    | cons z r ih => rw [List.flatMap_cons, ih]; rfl
  rw [hf] at hj
  have hl := (List.getElem?_eq_some_iff.1 hj).1
  rw [Nat.add_comm 1 j]
  simp only [List.getElem?_toArray, List.singleton_append, List.getElem?_cons_succ]
  rw [List.getElem?_append_left hl]; exact hj
/-- A part of an array, from its second place on, as a slice. -/
theorem Yl.sliceArr {d T E b n m c : Nat} {hi : Int} {row : Bool} {by_ : Nat} {z : Value} (h : asSlice N ops S i = some (d, T, .pointer (some ⟨b, 0, none⟩), some (.int .i64 1), some (.int .i64 hi))) (ht : P.underlying T = some (.array n E)) (hT : Ty P E row 1 by_ z)
    (hb : hi = 1 + (m : Int)) (hm : 1 + m ≤ n) (h1 : 1 < n) (hc : c = n - 1) : Yl P N ops S i C d (.slice (some ⟨b, 1, none⟩) m c) := by
  obtain ⟨o, hs, hd, he⟩ := asSlice_spec h
  subst hb hc
  refine ⟨o, hs, hd, fun w _ => ?_⟩
  have hal : P.arrayLen T = n := by simp [Program.arrayLen, ht]
  have hel : P.elem T = E := by simp [Program.elem, ht]
  rw [he]
  have := run_sliceAt_array_lh (P := P) w T ⟨b, 0, none⟩ (by rw [hal, hel]; exact ht) .i64 .i64 1 (1 + (m : Int)) (by omega) (by omega) (by rw [hal]; omega)
  rw [hal, hel] at this
  obtain ⟨ti, hi, e1, _⟩ := hT.get
  have hsz : (Go.sizeOf E).run P w = .ok 1 w := by simp [sizeOf, typeInfo, hi, e1]
  rw [hsz] at this
  simp [this, slicedAt, Addr.add]
  exact ⟨by omega, by omega⟩
theorem win_w {m : Nat} (h : m ≤ 23) : wi64 (1 + (m : Int)) = 1 + (m : Int) := by
  have : ∀ k ≤ 23, wi64 (1 + ((k : Nat) : Int)) = 1 + ((k : Nat) : Int) := by decide +kernel
  exact this m h
theorem win_new {T : TypeId} {b m : Nat} (h : Inv w0 Z w (star (pt b (.cells (cA (Value.int .u8) (List.replicate 24 (0 : Int))).toArray T (0, 0))) R)) (hm : m ≤ 23) :
    Inv w0 Z w (star (winS T (.int .u8 0) (List.replicate (23 - m) (.int .u8 0)) (some ⟨b, 1, none⟩) 23 (List.replicate m (0 : Int))) R) := by
  have e : cA (Value.int .u8) (List.replicate 24 (0 : Int)) = [Value.int .u8 0] ++ ((List.replicate m (0 : Int)).map (Value.int .u8) ++ List.replicate (23 - m) (.int .u8 0)) := by
    have h1 : cA (Value.int .u8) (List.replicate 24 (0 : Int)) = List.replicate 24 (Value.int .u8 0) := rfl
    rw [h1, List.map_replicate, List.replicate_append_replicate, show m + (23 - m) = 23 by omega]
    rfl
  rw [e] at h
  exact winS_shut h (by simp; omega) (by decide)
end Go.Cen
