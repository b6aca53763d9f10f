/-
  FileValid: whatever the input, the law answers true, and each argument reads as it did. No condition.
-/
import Derived.Test.YthdoklobbcedcadDoorCenRow
import Derived.Test.YthdoklobbcedcadDoorCenTab
import Derived.Test.YthdoklobbcedcadDoorLFileValid
import Derived.Test.YthdoklobbcedcadDoorFiW
import Derived.Test.YthdoklobbcedcadDoorRows
import Derived.Test.YthdoklobbcedcadDoorCards
import Derived.Test.YthdoklobbcedcadDoorTie
import Derived.ChangeVars
import Derived.LaidLaws
import Derived.LaidHandle
import Derived.MakeChecks
import Derived.SevenTiedAt
import Derived.Stop.Joined
set_option linter.unusedVariables false
set_option linter.unusedSimpArgs false
set_option maxRecDepth 100000
namespace Go.Proofs.YthdoklobbcedcadDoor
namespace fileValid
open Go.Cen Go.ChangeShapes Go.WideShapes Go.ChangeAt Go.RowKit
theorem split_ApiOp {cs : List Value} (hl : cs.length = 6) {u0 : Int} (e0 : (cs.drop 0).take 1 = (cI .i64) u0) {u1 : ByteArray} (e1 : (cs.drop 1).take 1 = cS u1) {u2 : ByteArray} (e2 : (cs.drop 2).take 1 = cS u2) {u3 : Int} (e3 : (cs.drop 3).take 1 = (cI .i64) u3) {u4 : Int} (e4 : (cs.drop 4).take 1 = (cI .i64) u4) {u5 : Int} (e5 : (cs.drop 5).take 1 = (cI .i64) u5) : cs = c_ApiOp ⟨u0, u1, u2, u3, u4, u5⟩ := by
  match cs, hl with
  | [x0, x1, x2, x3, x4, x5], _ =>
    simp [cI, cB, cS] at e0 e1 e2 e3 e4 e5
    subst e0 e1 e2 e3 e4 e5
    rfl
def ok_ApiOp (u : ApiOp) : Prop := (okI .i64) u.Kind ∧ (fun s => s.size ≤ maxLen) u.Name ∧ (fun s => s.size ≤ maxLen) u.Text ∧ (okI .i64) u.Time ∧ (okI .i64) u.A ∧ (okI .i64) u.B
set_option maxRecDepth 100000 in
theorem open_ApiOp {H : Type} {enc : TypeId × Value → H} {W : World} : OpenT enc Tryd.prog W 43 c_ApiOp ok_ApiOp := by
  intro fuel cs x h
  obtain ⟨hl, hf⟩ := OpenT.field Tryd.underlying43 h
  obtain ⟨u0, e0, k0⟩ := hf 0 _ rfl (OpenT.int (k := .i64) Tryd.underlying35)
  obtain ⟨u1, e1, k1⟩ := hf 1 _ rfl (OpenT.str Tryd.underlying9)
  obtain ⟨u2, e2, k2⟩ := hf 2 _ rfl (OpenT.str Tryd.underlying9)
  obtain ⟨u3, e3, k3⟩ := hf 3 _ rfl (OpenT.int (k := .i64) Tryd.underlying3)
  obtain ⟨u4, e4, k4⟩ := hf 4 _ rfl (OpenT.int (k := .i64) Tryd.underlying3)
  obtain ⟨u5, e5, k5⟩ := hf 5 _ rfl (OpenT.int (k := .i64) Tryd.underlying3)
  have e0 : (cs.drop 0).take (Tryd.prog.cellsOf 35) = (cI .i64) u0 := e0
  rw [show Tryd.prog.cellsOf 35 = 1 from by kernel_rfl] at e0
  have e1 : (cs.drop 1).take (Tryd.prog.cellsOf 9) = cS u1 := e1
  rw [show Tryd.prog.cellsOf 9 = 1 from by kernel_rfl] at e1
  have e2 : (cs.drop 2).take (Tryd.prog.cellsOf 9) = cS u2 := e2
  rw [show Tryd.prog.cellsOf 9 = 1 from by kernel_rfl] at e2
  have e3 : (cs.drop 3).take (Tryd.prog.cellsOf 3) = (cI .i64) u3 := e3
  rw [show Tryd.prog.cellsOf 3 = 1 from by kernel_rfl] at e3
  have e4 : (cs.drop 4).take (Tryd.prog.cellsOf 3) = (cI .i64) u4 := e4
  rw [show Tryd.prog.cellsOf 3 = 1 from by kernel_rfl] at e4
  have e5 : (cs.drop 5).take (Tryd.prog.cellsOf 3) = (cI .i64) u5 := e5
  rw [show Tryd.prog.cellsOf 3 = 1 from by kernel_rfl] at e5
  rw [show Tryd.prog.cellsOf 43 = 6 from by kernel_rfl] at hl
  refine ⟨⟨u0, u1, u2, u3, u4, u5⟩, ?_, ⟨k0, k1, k2, k3, k4, k5⟩⟩
  exact split_ApiOp hl e0 e1 e2 e3 e4 e5
theorem tabs_of {W : World} (h : laidMetH Tryd.prog Rows.fileValidRow.laid W) : Tabs (heapOf W) := by
  rw [MakeChecks.laidMetH_plain _ _ _ (by kernel_rfl)] at h
  have h0 := Lib.laidMet.reads h (n := "unicode/utf8.first") (d := Rows.laid_unicode_utf8_first) (by simp only [Rows.fileValidRow, List.mem_cons, true_or, or_true])
  have e0 : Rows.laid_unicode_utf8_first = Lib.tabData .u8 tab0 := by kernel_rfl
  rw [e0] at h0
  have h1 := Lib.laidMet.reads h (n := "unicode/utf8.acceptRanges") (d := Rows.laid_unicode_utf8_acceptRanges) (by simp only [Rows.fileValidRow, List.mem_cons, true_or, or_true])
  have e1 : (Rows.laid_unicode_utf8_acceptRanges : DataW Unit) = .agg (tab1.map fun x => .agg (([x.lo, x.hi] : List Int).map fun z => .lit (.int .u8 z))) := by kernel_rfl
  rw [e1] at h1
  exact ⟨tab_ints (by kernel_rfl) (by kernel_rfl) Tryd.underlying108 Tryd.underlying5 (by kernel_rfl) (by kernel_rfl) h0 rfl (by decide),
    tab_structs (k := .u8) (m := 2) (num := fun (x : Utf8AcceptRange) => ([x.lo, x.hi] : List Int)) (fun _ => rfl) (fun _ => rfl) (by decide) (by kernel_rfl) (by kernel_rfl) Tryd.underlying111 Tryd.underlying110 (fun i f h => match i, h with | 0, h => by cases h; exact ⟨Tryd.underlying5, rfl, by kernel_rfl⟩ | 1, h => by cases h; exact ⟨Tryd.underlying5, rfl, by kernel_rfl⟩ | i + 2, h => by cases h) rfl (by kernel_rfl) (by kernel_rfl) h1 rfl (by decide), trivial⟩
/-- A world that meets the condition: the settled one, the tables laid. -/
noncomputable def laidWorld (os : Os) : World := { World.holding Tryd.prog os ⟨#[], #[], []⟩ with heap := (((World.holding Tryd.prog os ⟨#[], #[], []⟩).heap.modify 0 fun | .cells _ t fz => .cells (tab0.map fun z => Value.int .u8 z).toArray t fz | o => o).modify 1 fun | .cells _ t fz => .cells (tab1.flatMap c_Utf8AcceptRange).toArray t fz | o => o) }
theorem laid_met (os : Os) (args : Array Value) : laidMetH Tryd.prog Rows.fileValidRow.laid ((laidWorld os).forCall (fun _ _ => 0) ⟨#[], args, []⟩).memory :=
  laidMetH_of_parts (laidMet_of_run' 8 (by kernel_rfl) (by kernel_rfl)) (by kernel_rfl)
theorem own : ownKnob Tryd.prog.godebug = none := by kernel_rfl
set_option maxRecDepth 100000 in
theorem contract (H : Type) (enc : TypeId × Value → H) (W : World) (base : Nat) (args : Array Value) (ds gs : List (DataW H)) (before : List MemPlace)
    (hval : ∀ (j : Nat) t v, Tryd.f7.params[j]? = some t → args[j]? = some v → Value.okWide Tryd.prog W .any base t v)
    (hW : DataW.Whole enc Tryd.prog Tryd.f7.params.toList Rows.fileValidSpec.vars false W args.toList ds gs before) (hL : laidMetH Tryd.prog Rows.fileValidRow.laid W) :
    Calls Tryd.prog 7 args W fun e W' => ∃ v, e = .returned v ∧ Rows.fileValidSpec.post enc Tryd.prog Tryd.f7 false true false false W args v W' := by
  have hW' := hW
  obtain ⟨p, q, hA0, hV, rfl, hfz, hnd⟩ := hW
  have hA : DataW.TrodAll enc Tryd.prog W 0 (fun _ => true) true Tryd.f7.params.toList args.toList ds p := hA0
  rw [Tryd.params7] at hA hval
  obtain ⟨v0, vs0, d0, ds0, p0, q0, hargs, rfl, rfl, h0, r0⟩ := trodAll_cons hA
  obtain ⟨v1, vs1, d1, ds1, p1, q1, rfl, rfl, rfl, h1, r1⟩ := trodAll_cons r0
  obtain ⟨v2, vs2, d2, ds2, p2, q2, rfl, rfl, rfl, h2, r2⟩ := trodAll_cons r1
  obtain ⟨rfl, rfl, rfl⟩ := trodAll_nil r2
  obtain rfl : args = #[v0, v1, v2] := by cases args; simp_all
  clear hA0
  obtain ⟨a0, rfl, w0⟩ := arg_int Tryd.underlying3 (hval 0 3 v0 rfl rfl) h0
  obtain ⟨a1, rfl, w1⟩ := arg_str Tryd.underlying9 (hval 1 9 v1 rfl rfl) h1
  obtain ⟨A2, c2_, a2, rfl, s2, w2⟩ := arg_slice Tryd.underlying49 open_ApiOp (by kernel_rfl) (by kernel_rfl) (no_agg Tryd.underlying49 (hval 2 49 v2 rfl rfl)) h2
  have law : law08_FileValid a0 a1 a2 = some true := law08_FileValid_eq a0 a1 a2 (Nat.le_trans w1 (by decide : maxLen ≤ 9223372036854775807))
  have hT := tabs_of hL
  refine (c7 W W (heapOf W) emp (Inv.start W) hT a0 a1 A2 c2_ a2 s2 true law).mono fun e W' ⟨he, hI⟩ => ?_
  subst he
  exact ⟨_, rfl, post_law (by kernel_rfl) (by kernel_rfl) rfl Tryd.underlying4 rfl rfl rfl rfl hW' hI.below⟩
set_option maxRecDepth 100000 in
theorem lifted (os : Os) (started : os.Started) (H : Type) (enc : TypeId × Value → H) :
    ReturnsInHanded {} Tryd.checked os 7 .any (fun w args => (Rows.fileValidSpec.pre enc Tryd.prog Tryd.f7 [] false w args ∧ laidMetH Tryd.prog Rows.fileValidRow.laid w) ∧ sizedMet enc Tryd.prog Tryd.f7 (OpenSpec.ofChange Rows.fileValidSpec) false w args)
      (Rows.fileValidSpec.post enc Tryd.prog Tryd.f7 false true false false) := by
  refine returnsInHanded_of_change_and (C := Tryd.checked) (X := fun w _ => laidMetH Tryd.prog Rows.fileValidRow.laid w) (fun _ _ _ hh h => h.of_heap hh) own started (by kernel_rfl) Tryd.func7
    (ChangeSpec.witness_at (enc := enc) (C := Tryd.checked) (os := os) (X := fun w _ => laidMetH Tryd.prog Rows.fileValidRow.laid w) false (laidWorld os) #[.int .i64 0, .string ⟨#[]⟩, .slice none 0 0] 8 rfl (by kernel_rfl) (by kernel_rfl) (by kernel_rfl) (by kernel_rfl) (by kernel_rfl) (laid_met os _)) ?_
  intro W base args ds gs before hval hW _ _ hL _
  exact contract H enc W base args ds gs before hval hW hL
theorem over : Rows.fileValidRow.holds Tryd.pinned (OpenSpec.ofChange Rows.fileValidSpec) :=
  OpenClaim.holds_of_wide 7 Tryd.f7 rfl rfl rfl rfl rfl rfl rfl ⟨rfl, rfl, rfl, rfl, rfl⟩ rfl rfl rfl rfl rfl (by kernel_rfl) Tryd.func7 (by kernel_rfl)
    (of_decide_eq_true (by kernel_rfl)) (by unfold Func.isWrapper; first | (rw [if_pos (by decide +kernel)]; kernel_rfl) | (rw [if_neg (by decide +kernel)]; exact ⟨rfl, rfl⟩))
    (fun os started H enc _ => lifted os started H enc)
theorem card : Rows.FileValidCardSaid :=
  Claim7.holds_tied_plain_at .later [] [.data, .pinned] true (true, "37f400f8b40fd4b1a643264fdb047bac232f4144e1f8b8841a7bce3d511e1a6d") true
    over (fun _ h => by cases h) (by kernel_rfl) (fun _ h => by cases h) fileValid_row_tie rfl ⟨rfl, rfl⟩ (by kernel_rfl) rfl
    (fun f fn hf hfn => by
      obtain rfl : f = 7 := Option.some.inj ((show Tryd.prog.funcNamed "cenotaph/cenotaphlaw08.FileValid" = some 7 by kernel_rfl).symm.trans hf) |>.symm
      obtain rfl : fn = Tryd.f7 := (Option.some.inj (Tryd.func7.symm.trans hfn)).symm
      exact ⟨by kernel_rfl, fun j t ht => by
        rw [Tryd.params7] at ht
        have hm : t ∈ [3, 9, 49] := by have := Array.mem_of_getElem? ht; simp at this; simp; exact this
        have hall : ([3, 9, 49].all fun u => !Tryd.prog.wantsStandIn u) = true := by kernel_rfl
        exact (show Tryd.prog.wantsStandIn t = false by simpa using List.all_eq_true.1 hall t hm)⟩)
    (by kernel_rfl)
end fileValid
/-- THE STATEMENT -/
theorem fileValid_proved : Rows.FileValidCardSaid := fileValid.card
#print axioms fileValid_proved
end Go.Proofs.YthdoklobbcedcadDoor
