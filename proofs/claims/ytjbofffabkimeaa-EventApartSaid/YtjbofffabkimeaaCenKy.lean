/- Keys of an interface's type: told apart. No program in sight. -/
import Derived.Test.YtjbofffabkimeaaCenMp
import Derived.Test.YtjbofffabkimeaaCenMa
import Derived.ChangeKeysEq
set_option linter.unusedVariables false
set_option linter.unusedSimpArgs false
namespace Go.Cen
variable {P : Program}
theorem inf_of {t : TypeId} (h : (match P.info? t with | some i => i.comparable | none => false) = true) : ∃ i, P.info? t = some i ∧ i.comparable = true := by
  cases q : P.info? t with
  | none => rw [q] at h; cases h
  | some i => rw [q] at h; exact ⟨i, rfl, h⟩
theorem chk_str {t : TypeId} (h : P.underlying t = some .string) (e : Bool) (n : Nat) (s : ByteArray) (w : World) : (Instr.checkKey e (n + 1) t (.string s)).run P w = .ok () w := by
  rw [Instr.checkKey]; simp [run_underlying h]
theorem chk_int {t : TypeId} {k q : IntKind} (h : P.underlying t = some (.int k)) (e : Bool) (n : Nat) (x : Int) (w : World) : (Instr.checkKey e (n + 1) t (.int q x)).run P w = .ok () w := by
  rw [Instr.checkKey]; simp [run_underlying h]
theorem chk_nil {t : TypeId} {ms} (h : P.underlying t = some (.interface ms)) (e : Bool) (n : Nat) (w : World) : (Instr.checkKey e (n + 1) t .nilIface).run P w = .ok () w := by
  rw [Instr.checkKey]; simp [run_underlying h]
theorem chk_if {t d : TypeId} {ms} (h : P.underlying t = some (.interface ms)) (hi : ∃ i, P.info? d = some i ∧ i.comparable = true) (e : Bool) (n : Nat) (x : Value) (w : World) (hx : (Instr.checkKey e n d x).run P w = .ok () w) :
    (Instr.checkKey e (n + 1) t (.iface d x)).run P w = .ok () w := by
  obtain ⟨i, h1, h2⟩ := hi
  rw [Instr.checkKey]
  simp [run_underlying h, run_typeInfo w h1, h2, hx]
theorem eq_nn {t : TypeId} {ms} (h : P.underlying t = some (.interface ms)) (w : World) : (Op.equal t .nilIface .nilIface).run P w = .ok true w := by
  unfold Op.equal Op.maxDepth; rw [Op.equalIn]; simp [run_underlying h]
theorem eq_ni {t d : TypeId} {ms} {x : Value} (h : P.underlying t = some (.interface ms)) (w : World) : (Op.equal t .nilIface (.iface d x)).run P w = .ok false w := by
  unfold Op.equal Op.maxDepth; rw [Op.equalIn]; simp [run_underlying h]
theorem eq_in {t d : TypeId} {ms} {x : Value} (h : P.underlying t = some (.interface ms)) (w : World) : (Op.equal t (.iface d x) .nilIface).run P w = .ok false w := by
  unfold Op.equal Op.maxDepth; rw [Op.equalIn]; simp [run_underlying h]
theorem eq_ne {t d d' : TypeId} {ms} {x y : Value} (h : P.underlying t = some (.interface ms)) (hd : d ≠ d') (w : World) : (Op.equal t (.iface d x) (.iface d' y)).run P w = .ok false w := by
  unfold Op.equal Op.maxDepth; rw [Op.equalIn]; simp [run_underlying h, hd]
theorem eq_ss {t d : TypeId} {ms} {x y : ByteArray} (h : P.underlying t = some (.interface ms)) (hi : ∃ i, P.info? d = some i ∧ i.comparable = true) (hd : P.underlying d = some .string) (w : World) :
    (Op.equal t (.iface d (.string x)) (.iface d (.string y))).run P w = .ok (decide (x = y)) w := by
  obtain ⟨i, h1, h2⟩ := hi
  unfold Op.equal Op.maxDepth; rw [Op.equalIn]
  simp only [Sem.run_bind, run_underlying h, Result.andThen_ok, ne_eq, not_true_eq_false, if_false, run_typeInfo w h1, h2, Bool.not_true, Bool.false_eq_true]
  rw [run_equalIn_string w _ d x y hd]
  have : (x.toList == y.toList) = decide (x = y) := by
    have q := seq_iff x y
    by_cases e : x = y
    · subst e; rw [show (x.toList == x.toList) = true from q.2 rfl]; simp
    · cases c : (x.toList == y.toList) with
      | false => simp [e]
      | true => exact absurd (q.1 c) e
  rw [this]
theorem eq_ii {t d : TypeId} {ms} {k q : IntKind} {x y : Int} (h : P.underlying t = some (.interface ms)) (hi : ∃ i, P.info? d = some i ∧ i.comparable = true) (hd : P.underlying d = some (.int k)) (w : World) :
    (Op.equal t (.iface d (.int q x)) (.iface d (.int q y))).run P w = .ok (decide (x = y)) w := by
  obtain ⟨i, h1, h2⟩ := hi
  unfold Op.equal Op.maxDepth; rw [Op.equalIn]
  simp only [Sem.run_bind, run_underlying h, Result.andThen_ok, ne_eq, not_true_eq_false, if_false, run_typeInfo w h1, h2, Bool.not_true, Bool.false_eq_true]
  rw [Op.equalIn]
  simp only [Sem.run_bind, run_underlying hd, Result.andThen_ok, if_true]
  have : (x == y) = decide (x = y) := by by_cases e : x = y <;> simp [e]
  rw [this]; rfl
theorem ba_beq (s : ByteArray) : (s == s) = true := by rw [beq_toListBytes]; exact (seq_iff s s).2 rfl
theorem same_str (s : ByteArray) (n : Nat) (d : TypeId) : Instr.sameBits (n + 2) (.iface d (.string s)) (.iface d (.string s)) = true := by
  simp only [Instr.sameBits, BEq.rfl, Bool.true_and, Bool.and_true, decide_true]
  exact ba_beq s
theorem same_int (x : Int) (n : Nat) (d : TypeId) : Instr.sameBits (n + 2) (.iface d (.int .i64 x)) (.iface d (.int .i64 x)) = true := by
  simp [Instr.sameBits]
end Go.Cen
