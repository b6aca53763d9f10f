/-
  RootStays: whatever the input, the law answers true, and each argument reads as it did. No condition.
-/
import Derived.Test.YthdoklobbcedcabCenRow
import Derived.Test.YthdoklobbcedcabLRootStays
import Derived.Test.YthdoklobbcedcabRootP
import Derived.Test.YthdoklobbcedcabRows
set_option linter.unusedVariables false
set_option linter.unusedSimpArgs false
namespace Go.Proofs.Ythdoklobbcedcab
namespace rootStays
open Go.Cen Go.ChangeShapes Go.WideShapes Go.ChangeAt Go.RowKit
theorem split_RootEntry {cs : List Value} (hl : cs.length = 4) {u0 : Int} (e0 : (cs.drop 0).take 1 = (cI .i64) u0) {u1 : Int} (e1 : (cs.drop 1).take 1 = (cI .i64) u1) {u2 : Int} (e2 : (cs.drop 2).take 1 = (cI .i64) u2) {u3 : Int} (e3 : (cs.drop 3).take 1 = (cI .i64) u3) : cs = c_RootEntry ⟨u0, u1, u2, u3⟩ := by
  match cs, hl with
  | [x0, x1, x2, x3], _ =>
    simp [cI, cB, cS] at e0 e1 e2 e3
    subst e0 e1 e2 e3
    rfl
def ok_RootEntry (u : RootEntry) : Prop := (okI .i64) u.Logic ∧ (okI .i64) u.Owner ∧ (okI .i64) u.Block ∧ (okI .i64) u.At
set_option maxRecDepth 100000 in
theorem open_RootEntry {H : Type} {enc : TypeId × Value → H} {W : World} : OpenT enc Try.prog W 47 c_RootEntry ok_RootEntry := by
  intro fuel cs x h
  obtain ⟨hl, hf⟩ := OpenT.field Try.underlying47 h
  obtain ⟨u0, e0, k0⟩ := hf 0 _ rfl (OpenT.int (k := .i64) Try.underlying3)
  obtain ⟨u1, e1, k1⟩ := hf 1 _ rfl (OpenT.int (k := .i64) Try.underlying3)
  obtain ⟨u2, e2, k2⟩ := hf 2 _ rfl (OpenT.int (k := .i64) Try.underlying3)
  obtain ⟨u3, e3, k3⟩ := hf 3 _ rfl (OpenT.int (k := .i64) Try.underlying3)
  have e0 : (cs.drop 0).take (Try.prog.cellsOf 3) = (cI .i64) u0 := e0
  rw [show Try.prog.cellsOf 3 = 1 from by kernel_rfl] at e0
  have e1 : (cs.drop 1).take (Try.prog.cellsOf 3) = (cI .i64) u1 := e1
  rw [show Try.prog.cellsOf 3 = 1 from by kernel_rfl] at e1
  have e2 : (cs.drop 2).take (Try.prog.cellsOf 3) = (cI .i64) u2 := e2
  rw [show Try.prog.cellsOf 3 = 1 from by kernel_rfl] at e2
  have e3 : (cs.drop 3).take (Try.prog.cellsOf 3) = (cI .i64) u3 := e3
  rw [show Try.prog.cellsOf 3 = 1 from by kernel_rfl] at e3
  rw [show Try.prog.cellsOf 47 = 4 from by kernel_rfl] at hl
  refine ⟨⟨u0, u1, u2, u3⟩, ?_, ⟨k0, k1, k2, k3⟩⟩
  exact split_RootEntry hl e0 e1 e2 e3
def enx_RootRoot (x : (SlT RootEntry × SlT Int × Unit)) : List Value := enSl x.1 ++ (enSl x.2.1 ++ [])
def okx_RootRoot (W : World) (x : (SlT RootEntry × SlT Int × Unit)) : Prop := (okSl W c_RootEntry 4 ok_RootEntry) x.1 ∧ (okSl W (cI .i64) 1 (okI .i64)) x.2.1 ∧ True
set_option maxRecDepth 100000 in
theorem openx_RootRoot {H : Type} {enc : TypeId × Value → H} {W : World} : OpenT enc Try.prog W 25 enx_RootRoot (okx_RootRoot W) := by
  intro fuel cs x h
  obtain ⟨hl, hf⟩ := OpenT.field Try.underlying25 h
  obtain ⟨u0, e0, k0⟩ := hf 0 _ rfl (OpenT.slice Try.underlying22 open_RootEntry (by kernel_rfl) (by kernel_rfl))
  have e0 : (cs.drop 0).take (Try.prog.cellsOf 22) = enSl u0 := e0
  rw [show Try.prog.cellsOf 22 = 1 from by kernel_rfl] at e0
  obtain ⟨u1, e1, k1⟩ := hf 1 _ rfl (OpenT.slice Try.underlying23 (OpenT.int (k := .i64) Try.underlying3) (by kernel_rfl) (by kernel_rfl))
  have e1 : (cs.drop 1).take (Try.prog.cellsOf 23) = enSl u1 := e1
  rw [show Try.prog.cellsOf 23 = 1 from by kernel_rfl] at e1
  rw [show Try.prog.cellsOf 25 = 2 from by kernel_rfl] at hl
  have s2 : cs.drop 2 = [] := split_end hl (by decide)
  have s1 := split_more e1 (by decide) s2
  have s0 := split_more e0 (by decide) s1
  exact ⟨(u0, u1, ()), s0, ⟨k0, k1, trivial⟩⟩
theorem own : ownKnob Try.prog.godebug = none := by kernel_rfl
set_option maxRecDepth 100000 in
theorem contract (H : Type) (enc : TypeId × Value → H) (W : World) (base : Nat) (args : Array Value) (ds gs : List (DataW H)) (before : List MemPlace)
    (hval : ∀ (j : Nat) t v, Try.f6.params[j]? = some t → args[j]? = some v → Value.okWide Try.prog W .any base t v)
    (hW : DataW.Whole enc Try.prog Try.f6.params.toList Rows.rootStaysSpec.vars false W args.toList ds gs before) :
    Calls Try.prog 6 args W fun e W' => ∃ v, e = .returned v ∧ Rows.rootStaysSpec.post enc Try.prog Try.f6 false true false false W args v W' := by
  have hW' := hW
  obtain ⟨p, q, hA0, hV, rfl, hfz, hnd⟩ := hW
  have hA : DataW.TrodAll enc Try.prog W 0 (fun _ => true) true Try.f6.params.toList args.toList ds p := hA0
  rw [Try.params6] at hA hval
  obtain ⟨v0, vs0, d0, ds0, p0, q0, hargs, rfl, rfl, h0, r0⟩ := trodAll_cons hA
  obtain ⟨v1, vs1, d1, ds1, p1, q1, rfl, rfl, rfl, h1, r1⟩ := trodAll_cons r0
  obtain ⟨v2, vs2, d2, ds2, p2, q2, rfl, rfl, rfl, h2, r2⟩ := trodAll_cons r1
  obtain ⟨rfl, rfl, rfl⟩ := trodAll_nil r2
  obtain rfl : args = #[v0, v1, v2] := by cases args; simp_all
  clear hA0
  obtain ⟨⟨⟨A0_0, c0_0_, u0_0⟩, ⟨A0_1, c0_1_, u0_1⟩, _⟩, rfl, w0⟩ := arg_row openx_RootRoot (okWide_row (.inl ⟨_, Try.underlying25⟩) (hval 0 25 v0 rfl rfl)) h0
  obtain ⟨a1, rfl, w1⟩ := arg_row open_RootEntry (okWide_row (.inl ⟨_, Try.underlying47⟩) (hval 1 47 v1 rfl rfl)) h1
  obtain ⟨a2, rfl, w2⟩ := arg_int Try.underlying3 (hval 2 3 v2 rfl rfl) h2
  have law : law15_RootStays u0_0 u0_1 a1 a2 = some true := law15_RootStays_eq u0_0 u0_1 a1 a2
  refine (c6 W W (heapOf W) emp (Inv.start W) A0_0 c0_0_ u0_0 w0.1.1 A0_1 c0_1_ u0_1 w0.2.1.1 a1 a2 true law).mono fun e W' ⟨he, hI⟩ => ?_
  subst he
  exact ⟨_, rfl, post_law (by kernel_rfl) (by kernel_rfl) rfl Try.underlying4 rfl rfl rfl rfl hW' hI.below⟩
set_option maxRecDepth 100000 in
theorem lifted (os : Os) (started : os.Started) (H : Type) (enc : TypeId × Value → H) :
    ReturnsInHanded {} Try.checked os 6 .any (Rows.rootStaysSpec.pre6 enc Try.prog Try.f6 Rows.rootStaysRow.domain false) (Rows.rootStaysSpec.post enc Try.prog Try.f6 false true false false) := by
  refine returnsInHanded_of_change (C := Try.checked) own started (by kernel_rfl) Try.func6
    (ChangeSpec.witness6 (enc := enc) (C := Try.checked) false ⟨#[], #[.agg (([.slice none 0 0, .slice none 0 0] : List Value)).toArray, .agg (([.int .i64 0, .int .i64 0, .int .i64 0, .int .i64 0] : List Value)).toArray, .int .i64 0], []⟩ 8 (by kernel_rfl) (by kernel_rfl) (by kernel_rfl) (by kernel_rfl)) ?_
  intro W base args ds gs before hval hW _ _
  exact contract H enc W base args ds gs before hval hW
theorem over : Rows.rootStaysRow.holds Try.pinned (OpenSpec.ofChange Rows.rootStaysSpec) :=
  OpenClaim.holds_of_wide 6 Try.f6 rfl rfl rfl rfl rfl rfl rfl ⟨rfl, rfl, rfl, rfl, rfl⟩ rfl rfl rfl rfl rfl (by kernel_rfl) Try.func6 (by kernel_rfl)
    (of_decide_eq_true (by kernel_rfl)) (by unfold Func.isWrapper; first | (rw [if_pos (by decide +kernel)]; kernel_rfl) | (rw [if_neg (by decide +kernel)]; exact ⟨rfl, rfl⟩))
    (fun os started H enc _ => lifted os started H enc)
end rootStays
/-- THE STATEMENT -/
theorem rootStays_proved : Rows.RootStaysSaid := rootStays.over
#print axioms rootStays_proved
end Go.Proofs.Ythdoklobbcedcab
