/-
  FileStays: whatever the input, the law answers true, and each argument reads as it did. No condition.
-/
import Derived.Test.YthdoklobbcedcaeDoorCenRow
import Derived.Test.YthdoklobbcedcaeDoorCenTab
import Derived.Test.YthdoklobbcedcaeDoorLFileStays
import Derived.Test.YthdoklobbcedcaeDoorSFiS
import Derived.Test.YthdoklobbcedcaeDoorRows
import Derived.Test.YthdoklobbcedcaeDoorCards
import Derived.Test.YthdoklobbcedcaeDoorTie
import Derived.ChangeVars
import Derived.LaidLaws
import Derived.LaidHandle
import Derived.MakeChecks
import Derived.SevenTiedAt
import Derived.Stop.Joined
set_option linter.unusedVariables false
set_option linter.unusedSimpArgs false
set_option maxRecDepth 100000
namespace Go.Proofs.YthdoklobbcedcaeDoor
namespace fileStays
open Go.Cen Go.ChangeShapes Go.WideShapes Go.ChangeAt Go.RowKit
def enx_ApiFile (x : (Int × ByteArray × ByteArray × Bool × Int × SlT ByteArray × Unit)) : List Value := (cI .i64) x.1 ++ (cS x.2.1 ++ (cS x.2.2.1 ++ (cB x.2.2.2.1 ++ ((cI .i64) x.2.2.2.2.1 ++ (enSl x.2.2.2.2.2.1 ++ [])))))
def okx_ApiFile (W : World) (x : (Int × ByteArray × ByteArray × Bool × Int × SlT ByteArray × Unit)) : Prop := (okI .i64) x.1 ∧ (fun s => s.size ≤ maxLen) x.2.1 ∧ (fun s => s.size ≤ maxLen) x.2.2.1 ∧ (fun _ => True) x.2.2.2.1 ∧ (okI .i64) x.2.2.2.2.1 ∧ (okSl W cS 1 (fun s => s.size ≤ maxLen)) x.2.2.2.2.2.1 ∧ True
set_option maxRecDepth 100000 in
theorem openx_ApiFile {H : Type} {enc : TypeId × Value → H} {W : World} : OpenT enc Tryd.prog W 24 enx_ApiFile (okx_ApiFile W) := by
  intro fuel cs x h
  obtain ⟨hl, hf⟩ := OpenT.field Tryd.underlying24 h
  obtain ⟨u0, e0, k0⟩ := hf 0 _ rfl (OpenT.int (k := .i64) Tryd.underlying3)
  have e0 : (cs.drop 0).take (Tryd.prog.cellsOf 3) = (cI .i64) u0 := e0
  rw [show Tryd.prog.cellsOf 3 = 1 from by kernel_rfl] at e0
  obtain ⟨u1, e1, k1⟩ := hf 1 _ rfl (OpenT.str Tryd.underlying9)
  have e1 : (cs.drop 1).take (Tryd.prog.cellsOf 9) = cS u1 := e1
  rw [show Tryd.prog.cellsOf 9 = 1 from by kernel_rfl] at e1
  obtain ⟨u2, e2, k2⟩ := hf 2 _ rfl (OpenT.str Tryd.underlying9)
  have e2 : (cs.drop 2).take (Tryd.prog.cellsOf 9) = cS u2 := e2
  rw [show Tryd.prog.cellsOf 9 = 1 from by kernel_rfl] at e2
  obtain ⟨u3, e3, k3⟩ := hf 3 _ rfl (OpenT.bool Tryd.underlying4)
  have e3 : (cs.drop 3).take (Tryd.prog.cellsOf 4) = cB u3 := e3
  rw [show Tryd.prog.cellsOf 4 = 1 from by kernel_rfl] at e3
  obtain ⟨u4, e4, k4⟩ := hf 4 _ rfl (OpenT.int (k := .i64) Tryd.underlying3)
  have e4 : (cs.drop 4).take (Tryd.prog.cellsOf 3) = (cI .i64) u4 := e4
  rw [show Tryd.prog.cellsOf 3 = 1 from by kernel_rfl] at e4
  obtain ⟨u5, e5, k5⟩ := hf 5 _ rfl (OpenT.slice Tryd.underlying22 (OpenT.str Tryd.underlying9) (by kernel_rfl) (by kernel_rfl))
  have e5 : (cs.drop 5).take (Tryd.prog.cellsOf 22) = enSl u5 := e5
  rw [show Tryd.prog.cellsOf 22 = 1 from by kernel_rfl] at e5
  rw [show Tryd.prog.cellsOf 24 = 6 from by kernel_rfl] at hl
  have s6 : cs.drop 6 = [] := split_end hl (by decide)
  have s5 := split_more e5 (by decide) s6
  have s4 := split_more e4 (by decide) s5
  have s3 := split_more e3 (by decide) s4
  have s2 := split_more e2 (by decide) s3
  have s1 := split_more e1 (by decide) s2
  have s0 := split_more e0 (by decide) s1
  exact ⟨(u0, u1, u2, u3, u4, u5, ()), s0, ⟨k0, k1, k2, k3, k4, k5, trivial⟩⟩
theorem split_ApiOp {cs : List Value} (hl : cs.length = 6) {u0 : Int} (e0 : (cs.drop 0).take 1 = (cI .i64) u0) {u1 : ByteArray} (e1 : (cs.drop 1).take 1 = cS u1) {u2 : ByteArray} (e2 : (cs.drop 2).take 1 = cS u2) {u3 : Int} (e3 : (cs.drop 3).take 1 = (cI .i64) u3) {u4 : Int} (e4 : (cs.drop 4).take 1 = (cI .i64) u4) {u5 : Int} (e5 : (cs.drop 5).take 1 = (cI .i64) u5) : cs = c_ApiOp ⟨u0, u1, u2, u3, u4, u5⟩ := by
  match cs, hl with
  | [x0, x1, x2, x3, x4, x5], _ =>
    simp [cI, cB, cS] at e0 e1 e2 e3 e4 e5
    subst e0 e1 e2 e3 e4 e5
    rfl
def ok_ApiOp (u : ApiOp) : Prop := (okI .i64) u.Kind ∧ (fun s => s.size ≤ maxLen) u.Name ∧ (fun s => s.size ≤ maxLen) u.Text ∧ (okI .i64) u.Time ∧ (okI .i64) u.A ∧ (okI .i64) u.B
set_option maxRecDepth 100000 in
theorem open_ApiOp {H : Type} {enc : TypeId × Value → H} {W : World} : OpenT enc Tryd.prog W 31 c_ApiOp ok_ApiOp := by
  intro fuel cs x h
  obtain ⟨hl, hf⟩ := OpenT.field Tryd.underlying31 h
  obtain ⟨u0, e0, k0⟩ := hf 0 _ rfl (OpenT.int (k := .i64) Tryd.underlying29)
  obtain ⟨u1, e1, k1⟩ := hf 1 _ rfl (OpenT.str Tryd.underlying9)
  obtain ⟨u2, e2, k2⟩ := hf 2 _ rfl (OpenT.str Tryd.underlying9)
  obtain ⟨u3, e3, k3⟩ := hf 3 _ rfl (OpenT.int (k := .i64) Tryd.underlying3)
  obtain ⟨u4, e4, k4⟩ := hf 4 _ rfl (OpenT.int (k := .i64) Tryd.underlying3)
  obtain ⟨u5, e5, k5⟩ := hf 5 _ rfl (OpenT.int (k := .i64) Tryd.underlying3)
  have e0 : (cs.drop 0).take (Tryd.prog.cellsOf 29) = (cI .i64) u0 := e0
  rw [show Tryd.prog.cellsOf 29 = 1 from by kernel_rfl] at e0
  have e1 : (cs.drop 1).take (Tryd.prog.cellsOf 9) = cS u1 := e1
  rw [show Tryd.prog.cellsOf 9 = 1 from by kernel_rfl] at e1
  have e2 : (cs.drop 2).take (Tryd.prog.cellsOf 9) = cS u2 := e2
  rw [show Tryd.prog.cellsOf 9 = 1 from by kernel_rfl] at e2
  have e3 : (cs.drop 3).take (Tryd.prog.cellsOf 3) = (cI .i64) u3 := e3
  rw [show Tryd.prog.cellsOf 3 = 1 from by kernel_rfl] at e3
  have e4 : (cs.drop 4).take (Tryd.prog.cellsOf 3) = (cI .i64) u4 := e4
  rw [show Tryd.prog.cellsOf 3 = 1 from by kernel_rfl] at e4
  have e5 : (cs.drop 5).take (Tryd.prog.cellsOf 3) = (cI .i64) u5 := e5
  rw [show Tryd.prog.cellsOf 3 = 1 from by kernel_rfl] at e5
  rw [show Tryd.prog.cellsOf 31 = 6 from by kernel_rfl] at hl
  refine ⟨⟨u0, u1, u2, u3, u4, u5⟩, ?_, ⟨k0, k1, k2, k3, k4, k5⟩⟩
  exact split_ApiOp hl e0 e1 e2 e3 e4 e5
theorem tabs_of {W : World} (h : laidMetH Tryd.prog Rows.fileStaysRow.laid W) : Tabs (heapOf W) := by
  rw [MakeChecks.laidMetH_plain _ _ _ (by kernel_rfl)] at h
  have h1 := Lib.laidMet.reads h (n := "unicode/utf8.first") (d := Rows.laid_unicode_utf8_first) (by simp only [Rows.fileStaysRow, List.mem_cons, true_or, or_true])
  have e1 : Rows.laid_unicode_utf8_first = Lib.tabData .u8 tab1 := by kernel_rfl
  rw [e1] at h1
  have h2 := Lib.laidMet.reads h (n := "unicode/utf8.acceptRanges") (d := Rows.laid_unicode_utf8_acceptRanges) (by simp only [Rows.fileStaysRow, List.mem_cons, true_or, or_true])
  have e2 : (Rows.laid_unicode_utf8_acceptRanges : DataW Unit) = .agg (tab2.map fun x => .agg (([x.lo, x.hi] : List Int).map fun z => .lit (.int .u8 z))) := by kernel_rfl
  rw [e2] at h2
  exact ⟨tab_ints (by kernel_rfl) (by kernel_rfl) Tryd.underlying193 Tryd.underlying5 (by kernel_rfl) (by kernel_rfl) h1 rfl (by decide),
    tab_structs (k := .u8) (m := 2) (num := fun (x : Utf8AcceptRange) => ([x.lo, x.hi] : List Int)) (fun _ => rfl) (fun _ => rfl) (by decide) (by kernel_rfl) (by kernel_rfl) Tryd.underlying196 Tryd.underlying195 (fun i f h => match i, h with | 0, h => by cases h; exact ⟨Tryd.underlying5, rfl, by kernel_rfl⟩ | 1, h => by cases h; exact ⟨Tryd.underlying5, rfl, by kernel_rfl⟩ | i + 2, h => by cases h) rfl (by kernel_rfl) (by kernel_rfl) h2 rfl (by decide), trivial⟩
/-- A world that meets the condition: the settled one, the tables laid. -/
noncomputable def laidWorld (os : Os) : World := { World.holding Tryd.prog os ⟨#[], #[], []⟩ with heap := (((World.holding Tryd.prog os ⟨#[], #[], []⟩).heap.modify 1 fun | .cells _ t fz => .cells (tab1.map fun z => Value.int .u8 z).toArray t fz | o => o).modify 2 fun | .cells _ t fz => .cells (tab2.flatMap c_Utf8AcceptRange).toArray t fz | o => o) }
theorem laid_met (os : Os) (args : Array Value) : laidMetH Tryd.prog Rows.fileStaysRow.laid ((laidWorld os).forCall (fun _ _ => 0) ⟨#[], args, []⟩).memory :=
  laidMetH_of_parts (laidMet_of_run' 8 (by kernel_rfl) (by kernel_rfl)) (by kernel_rfl)
theorem own : ownKnob Tryd.prog.godebug = none := by kernel_rfl
set_option maxRecDepth 100000 in
theorem contract (H : Type) (enc : TypeId × Value → H) (W : World) (base : Nat) (args : Array Value) (ds gs : List (DataW H)) (before : List MemPlace)
    (hval : ∀ (j : Nat) t v, Tryd.f3.params[j]? = some t → args[j]? = some v → Value.okWide Tryd.prog W .any base t v)
    (hW : DataW.Whole enc Tryd.prog Tryd.f3.params.toList Rows.fileStaysSpec.vars false W args.toList ds gs before) (hL : laidMetH Tryd.prog Rows.fileStaysRow.laid W) :
    Calls Tryd.prog 3 args W fun e W' => ∃ v, e = .returned v ∧ Rows.fileStaysSpec.post enc Tryd.prog Tryd.f3 false true false false W args v W' := by
  have hW' := hW
  obtain ⟨p, q, hA0, hV, rfl, hfz, hnd⟩ := hW
  have hA : DataW.TrodAll enc Tryd.prog W 0 (fun _ => true) true Tryd.f3.params.toList args.toList ds p := hA0
  rw [Tryd.params3] at hA hval
  obtain ⟨v0, vs0, d0, ds0, p0, q0, hargs, rfl, rfl, h0, r0⟩ := trodAll_cons hA
  obtain ⟨v1, vs1, d1, ds1, p1, q1, rfl, rfl, rfl, h1, r1⟩ := trodAll_cons r0
  obtain ⟨v2, vs2, d2, ds2, p2, q2, rfl, rfl, rfl, h2, r2⟩ := trodAll_cons r1
  obtain ⟨rfl, rfl, rfl⟩ := trodAll_nil r2
  obtain rfl : args = #[v0, v1, v2] := by cases args; simp_all
  clear hA0
  obtain ⟨⟨u0_0, u0_1, u0_2, u0_3, u0_4, ⟨A0_5, c0_5_, u0_5⟩, _⟩, rfl, w0⟩ := arg_row openx_ApiFile (okWide_row (.inl ⟨_, Tryd.underlying24⟩) (hval 0 24 v0 rfl rfl)) h0
  obtain ⟨A1, c1_, a1, rfl, s1, w1⟩ := arg_slice Tryd.underlying25 open_ApiOp (by kernel_rfl) (by kernel_rfl) (no_agg Tryd.underlying25 (hval 1 25 v1 rfl rfl)) h1
  obtain ⟨a2, rfl, w2⟩ := arg_int Tryd.underlying3 (hval 2 3 v2 rfl rfl) h2
  have law : law08_FileStays u0_0 u0_1 u0_2 u0_3 u0_4 u0_5 a1 a2 = some true := law08_FileStays_eq u0_0 u0_1 u0_2 u0_3 u0_4 u0_5 a1 a2 (Nat.le_trans w0.2.1 (by decide : maxLen ≤ 9223372036854775807)) (fun x hx => Nat.le_trans (w0.2.2.2.2.2.1.2 x hx) (by decide : maxLen ≤ 9223372036854775807))
  have hT := tabs_of hL
  refine (c3 W W (heapOf W) emp (Inv.start W) hT u0_0 u0_1 u0_2 u0_3 u0_4 A0_5 c0_5_ u0_5 w0.2.2.2.2.2.1.1 A1 c1_ a1 s1 a2 true law).mono fun e W' ⟨he, hI⟩ => ?_
  subst he
  exact ⟨_, rfl, post_law (by kernel_rfl) (by kernel_rfl) rfl Tryd.underlying4 rfl rfl rfl rfl hW' hI.below⟩
set_option maxRecDepth 100000 in
theorem lifted (os : Os) (started : os.Started) (H : Type) (enc : TypeId × Value → H) :
    ReturnsInHanded {} Tryd.checked os 3 .any (fun w args => (Rows.fileStaysSpec.pre enc Tryd.prog Tryd.f3 [] false w args ∧ laidMetH Tryd.prog Rows.fileStaysRow.laid w) ∧ sizedMet enc Tryd.prog Tryd.f3 (OpenSpec.ofChange Rows.fileStaysSpec) false w args)
      (Rows.fileStaysSpec.post enc Tryd.prog Tryd.f3 false true false false) := by
  refine returnsInHanded_of_change_and (C := Tryd.checked) (X := fun w _ => laidMetH Tryd.prog Rows.fileStaysRow.laid w) (fun _ _ _ hh h => h.of_heap hh) own started (by kernel_rfl) Tryd.func3
    (ChangeSpec.witness_at (enc := enc) (C := Tryd.checked) (os := os) (X := fun w _ => laidMetH Tryd.prog Rows.fileStaysRow.laid w) false (laidWorld os) #[.agg (([.int .i64 0, .string ⟨#[]⟩, .string ⟨#[]⟩, .bool false, .int .i64 0, .slice none 0 0] : List Value)).toArray, .slice none 0 0, .int .i64 0] 8 rfl (by kernel_rfl) (by kernel_rfl) (by kernel_rfl) (by kernel_rfl) (by kernel_rfl) (laid_met os _)) ?_
  intro W base args ds gs before hval hW _ _ hL _
  exact contract H enc W base args ds gs before hval hW hL
theorem over : Rows.fileStaysRow.holds Tryd.pinned (OpenSpec.ofChange Rows.fileStaysSpec) :=
  OpenClaim.holds_of_wide 3 Tryd.f3 rfl rfl rfl rfl rfl rfl rfl ⟨rfl, rfl, rfl, rfl, rfl⟩ rfl rfl rfl rfl rfl (by kernel_rfl) Tryd.func3 (by kernel_rfl)
    (of_decide_eq_true (by kernel_rfl)) (by unfold Func.isWrapper; first | (rw [if_pos (by decide +kernel)]; kernel_rfl) | (rw [if_neg (by decide +kernel)]; exact ⟨rfl, rfl⟩))
    (fun os started H enc _ => lifted os started H enc)
theorem card : Rows.FileStaysCardSaid :=
  Claim7.holds_tied_plain_at .later [] [.data, .pinned] true (true, "af0a84f517764669143143af5d66f369175a64b156106a3c2c22361eb480456a") true
    over (fun _ h => by cases h) (by kernel_rfl) (fun _ h => by cases h) fileStays_row_tie rfl ⟨rfl, rfl⟩ (by kernel_rfl) rfl
    (fun f fn hf hfn => by
      obtain rfl : f = 3 := Option.some.inj ((show Tryd.prog.funcNamed "cenotaph/cenotaphlaw08.FileStays" = some 3 by kernel_rfl).symm.trans hf) |>.symm
      obtain rfl : fn = Tryd.f3 := (Option.some.inj (Tryd.func3.symm.trans hfn)).symm
      exact ⟨by kernel_rfl, fun j t ht => by
        rw [Tryd.params3] at ht
        have hm : t ∈ [24, 25, 3] := by have := Array.mem_of_getElem? ht; simp at this; simp; exact this
        have hall : ([24, 25, 3].all fun u => !Tryd.prog.wantsStandIn u) = true := by kernel_rfl
        exact (show Tryd.prog.wantsStandIn t = false by simpa using List.all_eq_true.1 hall t hm)⟩)
    (by kernel_rfl)
end fileStays
/-- THE STATEMENT -/
theorem fileStays_proved : Rows.FileStaysCardSaid := fileStays.card
#print axioms fileStays_proved
end Go.Proofs.YthdoklobbcedcaeDoor
