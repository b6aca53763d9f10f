/-
  PoolBad: whatever the input, the law answers true, and each argument reads as it did. No condition.
-/
import Derived.Test.YthdoklobbcedcaaCenRow
import Derived.Test.YthdoklobbcedcaaLPoolBad
import Derived.Test.YthdoklobbcedcaaPoolD
import Derived.Test.YthdoklobbcedcaaRows
set_option linter.unusedVariables false
set_option linter.unusedSimpArgs false
namespace Go.Proofs.Ythdoklobbcedcaa
namespace poolBad
open Go.Cen Go.ChangeShapes Go.WideShapes Go.ChangeAt Go.RowKit
theorem split_PoolUse {cs : List Value} (hl : cs.length = 5) {u0 : Int} (e0 : (cs.drop 0).take 1 = (cI .i64) u0) {u1 : Int} (e1 : (cs.drop 1).take 1 = (cI .i64) u1) {u2 : Int} (e2 : (cs.drop 2).take 1 = (cI .i64) u2) {u3 : Bool} (e3 : (cs.drop 3).take 1 = cB u3) {u4 : Bool} (e4 : (cs.drop 4).take 1 = cB u4) : cs = c_PoolUse ⟨u0, u1, u2, u3, u4⟩ := by
  match cs, hl with
  | [x0, x1, x2, x3, x4], _ =>
    simp [cI, cB, cS] at e0 e1 e2 e3 e4
    subst e0 e1 e2 e3 e4
    rfl
def ok_PoolUse (u : PoolUse) : Prop := (okI .i64) u.Next ∧ (okI .i64) u.Live ∧ (okI .i64) u.Worn ∧ (fun _ => True) u.Bad ∧ (fun _ => True) u.Keep
set_option maxRecDepth 100000 in
theorem open_PoolUse {H : Type} {enc : TypeId × Value → H} {W : World} : OpenT enc Try.prog W 49 c_PoolUse ok_PoolUse := by
  intro fuel cs x h
  obtain ⟨hl, hf⟩ := OpenT.field Try.underlying49 h
  obtain ⟨u0, e0, k0⟩ := hf 0 _ rfl (OpenT.int (k := .i64) Try.underlying3)
  obtain ⟨u1, e1, k1⟩ := hf 1 _ rfl (OpenT.int (k := .i64) Try.underlying3)
  obtain ⟨u2, e2, k2⟩ := hf 2 _ rfl (OpenT.int (k := .i64) Try.underlying3)
  obtain ⟨u3, e3, k3⟩ := hf 3 _ rfl (OpenT.bool Try.underlying4)
  obtain ⟨u4, e4, k4⟩ := hf 4 _ rfl (OpenT.bool Try.underlying4)
  have e0 : (cs.drop 0).take (Try.prog.cellsOf 3) = (cI .i64) u0 := e0
  rw [show Try.prog.cellsOf 3 = 1 from by kernel_rfl] at e0
  have e1 : (cs.drop 1).take (Try.prog.cellsOf 3) = (cI .i64) u1 := e1
  rw [show Try.prog.cellsOf 3 = 1 from by kernel_rfl] at e1
  have e2 : (cs.drop 2).take (Try.prog.cellsOf 3) = (cI .i64) u2 := e2
  rw [show Try.prog.cellsOf 3 = 1 from by kernel_rfl] at e2
  have e3 : (cs.drop 3).take (Try.prog.cellsOf 4) = cB u3 := e3
  rw [show Try.prog.cellsOf 4 = 1 from by kernel_rfl] at e3
  have e4 : (cs.drop 4).take (Try.prog.cellsOf 4) = cB u4 := e4
  rw [show Try.prog.cellsOf 4 = 1 from by kernel_rfl] at e4
  rw [show Try.prog.cellsOf 49 = 5 from by kernel_rfl] at hl
  refine ⟨⟨u0, u1, u2, u3, u4⟩, ?_, ⟨k0, k1, k2, k3, k4⟩⟩
  exact split_PoolUse hl e0 e1 e2 e3 e4
theorem own : ownKnob Try.prog.godebug = none := by kernel_rfl
set_option maxRecDepth 100000 in
theorem contract (H : Type) (enc : TypeId × Value → H) (W : World) (base : Nat) (args : Array Value) (ds gs : List (DataW H)) (before : List MemPlace)
    (hval : ∀ (j : Nat) t v, Try.f13.params[j]? = some t → args[j]? = some v → Value.okWide Try.prog W .any base t v)
    (hW : DataW.Whole enc Try.prog Try.f13.params.toList Rows.poolBadSpec.vars false W args.toList ds gs before) :
    Calls Try.prog 13 args W fun e W' => ∃ v, e = .returned v ∧ Rows.poolBadSpec.post enc Try.prog Try.f13 false true false false W args v W' := by
  have hW' := hW
  obtain ⟨p, q, hA0, hV, rfl, hfz, hnd⟩ := hW
  have hA : DataW.TrodAll enc Try.prog W 0 (fun _ => true) true Try.f13.params.toList args.toList ds p := hA0
  rw [Try.params13] at hA hval
  obtain ⟨v0, vs0, d0, ds0, p0, q0, hargs, rfl, rfl, h0, r0⟩ := trodAll_cons hA
  obtain ⟨v1, vs1, d1, ds1, p1, q1, rfl, rfl, rfl, h1, r1⟩ := trodAll_cons r0
  obtain ⟨rfl, rfl, rfl⟩ := trodAll_nil r1
  obtain rfl : args = #[v0, v1] := by cases args; simp_all
  clear hA0
  obtain ⟨A0, c0_, a0, rfl, s0, w0⟩ := arg_slice Try.underlying35 open_PoolUse (by kernel_rfl) (by kernel_rfl) (no_agg Try.underlying35 (hval 0 35 v0 rfl rfl)) h0
  obtain ⟨a1, rfl, w1⟩ := arg_int Try.underlying3 (hval 1 3 v1 rfl rfl) h1
  have law : law17_PoolBad a0 a1 = some true := law_PoolBad a0 a1
  refine (c13 W W (heapOf W) emp (Inv.start W) A0 c0_ a0 s0 a1 true law).mono fun e W' ⟨he, hI⟩ => ?_
  subst he
  exact ⟨_, rfl, post_law (by kernel_rfl) (by kernel_rfl) rfl Try.underlying4 rfl rfl rfl rfl hW' hI.below⟩
set_option maxRecDepth 100000 in
theorem lifted (os : Os) (started : os.Started) (H : Type) (enc : TypeId × Value → H) :
    ReturnsInHanded {} Try.checked os 13 .any (Rows.poolBadSpec.pre6 enc Try.prog Try.f13 Rows.poolBadRow.domain false) (Rows.poolBadSpec.post enc Try.prog Try.f13 false true false false) := by
  refine returnsInHanded_of_change (C := Try.checked) own started (by kernel_rfl) Try.func13
    (ChangeSpec.witness6 (enc := enc) (C := Try.checked) false ⟨#[], #[.slice none 0 0, .int .i64 0], []⟩ 8 (by kernel_rfl) (by kernel_rfl) (by kernel_rfl) (by kernel_rfl)) ?_
  intro W base args ds gs before hval hW _ _
  exact contract H enc W base args ds gs before hval hW
theorem over : Rows.poolBadRow.holds Try.pinned (OpenSpec.ofChange Rows.poolBadSpec) :=
  OpenClaim.holds_of_wide 13 Try.f13 rfl rfl rfl rfl rfl rfl rfl ⟨rfl, rfl, rfl, rfl, rfl⟩ rfl rfl rfl rfl rfl (by kernel_rfl) Try.func13 (by kernel_rfl)
    (of_decide_eq_true (by kernel_rfl)) (by unfold Func.isWrapper; first | (rw [if_pos (by decide +kernel)]; kernel_rfl) | (rw [if_neg (by decide +kernel)]; exact ⟨rfl, rfl⟩))
    (fun os started H enc _ => lifted os started H enc)
end poolBad
/-- THE STATEMENT -/
theorem poolBad_proved : Rows.PoolBadSaid := poolBad.over
#print axioms poolBad_proved
end Go.Proofs.Ythdoklobbcedcaa
