/-
  FileSums: whatever the input, the law answers true, and each argument reads as it did. No condition.
-/
import Derived.Test.YthdoklobbcedcadDoorCenRow
import Derived.Test.YthdoklobbcedcadDoorCenTab
import Derived.Test.YthdoklobbcedcadDoorLFileSums
import Derived.Test.YthdoklobbcedcadDoorFiD
import Derived.Test.YthdoklobbcedcadDoorRows
import Derived.Test.YthdoklobbcedcadDoorCards
import Derived.Test.YthdoklobbcedcadDoorTie
import Derived.ChangeVars
import Derived.LaidLaws
import Derived.LaidHandle
import Derived.MakeChecks
import Derived.SevenTiedAt
import Derived.Stop.Joined
set_option linter.unusedVariables false
set_option linter.unusedSimpArgs false
set_option maxRecDepth 100000
namespace Go.Proofs.YthdoklobbcedcadDoor
namespace fileSums
open Go.Cen Go.ChangeShapes Go.WideShapes Go.ChangeAt Go.RowKit
theorem tabs_of {W : World} (h : laidMetH Tryd.prog Rows.fileSumsRow.laid W) : Tabs (heapOf W) := by
  rw [MakeChecks.laidMetH_plain _ _ _ (by kernel_rfl)] at h
  have h0 := Lib.laidMet.reads h (n := "unicode/utf8.first") (d := Rows.laid_unicode_utf8_first) (by simp only [Rows.fileSumsRow, List.mem_cons, true_or, or_true])
  have e0 : Rows.laid_unicode_utf8_first = Lib.tabData .u8 tab0 := by kernel_rfl
  rw [e0] at h0
  have h1 := Lib.laidMet.reads h (n := "unicode/utf8.acceptRanges") (d := Rows.laid_unicode_utf8_acceptRanges) (by simp only [Rows.fileSumsRow, List.mem_cons, true_or, or_true])
  have e1 : (Rows.laid_unicode_utf8_acceptRanges : DataW Unit) = .agg (tab1.map fun x => .agg (([x.lo, x.hi] : List Int).map fun z => .lit (.int .u8 z))) := by kernel_rfl
  rw [e1] at h1
  exact ⟨tab_ints (by kernel_rfl) (by kernel_rfl) Tryd.underlying108 Tryd.underlying5 (by kernel_rfl) (by kernel_rfl) h0 rfl (by decide),
    tab_structs (k := .u8) (m := 2) (num := fun (x : Utf8AcceptRange) => ([x.lo, x.hi] : List Int)) (fun _ => rfl) (fun _ => rfl) (by decide) (by kernel_rfl) (by kernel_rfl) Tryd.underlying111 Tryd.underlying110 (fun i f h => match i, h with | 0, h => by cases h; exact ⟨Tryd.underlying5, rfl, by kernel_rfl⟩ | 1, h => by cases h; exact ⟨Tryd.underlying5, rfl, by kernel_rfl⟩ | i + 2, h => by cases h) rfl (by kernel_rfl) (by kernel_rfl) h1 rfl (by decide), trivial⟩
/-- A world that meets the condition: the settled one, the tables laid. -/
noncomputable def laidWorld (os : Os) : World := { World.holding Tryd.prog os ⟨#[], #[], []⟩ with heap := (((World.holding Tryd.prog os ⟨#[], #[], []⟩).heap.modify 0 fun | .cells _ t fz => .cells (tab0.map fun z => Value.int .u8 z).toArray t fz | o => o).modify 1 fun | .cells _ t fz => .cells (tab1.flatMap c_Utf8AcceptRange).toArray t fz | o => o) }
theorem laid_met (os : Os) (args : Array Value) : laidMetH Tryd.prog Rows.fileSumsRow.laid ((laidWorld os).forCall (fun _ _ => 0) ⟨#[], args, []⟩).memory :=
  laidMetH_of_parts (laidMet_of_run' 8 (by kernel_rfl) (by kernel_rfl)) (by kernel_rfl)
theorem own : ownKnob Tryd.prog.godebug = none := by kernel_rfl
set_option maxRecDepth 100000 in
theorem contract (H : Type) (enc : TypeId × Value → H) (W : World) (base : Nat) (args : Array Value) (ds gs : List (DataW H)) (before : List MemPlace)
    (hval : ∀ (j : Nat) t v, Tryd.f4.params[j]? = some t → args[j]? = some v → Value.okWide Tryd.prog W .any base t v)
    (hW : DataW.Whole enc Tryd.prog Tryd.f4.params.toList Rows.fileSumsSpec.vars false W args.toList ds gs before) (hL : laidMetH Tryd.prog Rows.fileSumsRow.laid W) :
    Calls Tryd.prog 4 args W fun e W' => ∃ v, e = .returned v ∧ Rows.fileSumsSpec.post enc Tryd.prog Tryd.f4 false true false false W args v W' := by
  have hW' := hW
  obtain ⟨p, q, hA0, hV, rfl, hfz, hnd⟩ := hW
  have hA : DataW.TrodAll enc Tryd.prog W 0 (fun _ => true) true Tryd.f4.params.toList args.toList ds p := hA0
  rw [Tryd.params4] at hA hval
  obtain ⟨v0, vs0, d0, ds0, p0, q0, hargs, rfl, rfl, h0, r0⟩ := trodAll_cons hA
  obtain ⟨v1, vs1, d1, ds1, p1, q1, rfl, rfl, rfl, h1, r1⟩ := trodAll_cons r0
  obtain ⟨rfl, rfl, rfl⟩ := trodAll_nil r1
  obtain rfl : args = #[v0, v1] := by cases args; simp_all
  clear hA0
  obtain ⟨A0, c0_, a0, rfl, s0, w0⟩ := arg_slice Tryd.underlying22 (OpenT.str Tryd.underlying9) (by kernel_rfl) (by kernel_rfl) (no_agg Tryd.underlying22 (hval 0 22 v0 rfl rfl)) h0
  obtain ⟨a1, rfl, w1⟩ := arg_int Tryd.underlying3 (hval 1 3 v1 rfl rfl) h1
  have law : law08_FileSums a0 a1 = some true := law08_FileSums_eq a0 a1
  have hT := tabs_of hL
  refine (c4 W W (heapOf W) emp (Inv.start W) hT A0 c0_ a0 s0 a1 true law).mono fun e W' ⟨he, hI⟩ => ?_
  subst he
  exact ⟨_, rfl, post_law (by kernel_rfl) (by kernel_rfl) rfl Tryd.underlying4 rfl rfl rfl rfl hW' hI.below⟩
set_option maxRecDepth 100000 in
theorem lifted (os : Os) (started : os.Started) (H : Type) (enc : TypeId × Value → H) :
    ReturnsInHanded {} Tryd.checked os 4 .any (fun w args => (Rows.fileSumsSpec.pre enc Tryd.prog Tryd.f4 [] false w args ∧ laidMetH Tryd.prog Rows.fileSumsRow.laid w) ∧ sizedMet enc Tryd.prog Tryd.f4 (OpenSpec.ofChange Rows.fileSumsSpec) false w args)
      (Rows.fileSumsSpec.post enc Tryd.prog Tryd.f4 false true false false) := by
  refine returnsInHanded_of_change_and (C := Tryd.checked) (X := fun w _ => laidMetH Tryd.prog Rows.fileSumsRow.laid w) (fun _ _ _ hh h => h.of_heap hh) own started (by kernel_rfl) Tryd.func4
    (ChangeSpec.witness_at (enc := enc) (C := Tryd.checked) (os := os) (X := fun w _ => laidMetH Tryd.prog Rows.fileSumsRow.laid w) false (laidWorld os) #[.slice none 0 0, .int .i64 0] 8 rfl (by kernel_rfl) (by kernel_rfl) (by kernel_rfl) (by kernel_rfl) (by kernel_rfl) (laid_met os _)) ?_
  intro W base args ds gs before hval hW _ _ hL _
  exact contract H enc W base args ds gs before hval hW hL
theorem over : Rows.fileSumsRow.holds Tryd.pinned (OpenSpec.ofChange Rows.fileSumsSpec) :=
  OpenClaim.holds_of_wide 4 Tryd.f4 rfl rfl rfl rfl rfl rfl rfl ⟨rfl, rfl, rfl, rfl, rfl⟩ rfl rfl rfl rfl rfl (by kernel_rfl) Tryd.func4 (by kernel_rfl)
    (of_decide_eq_true (by kernel_rfl)) (by unfold Func.isWrapper; first | (rw [if_pos (by decide +kernel)]; kernel_rfl) | (rw [if_neg (by decide +kernel)]; exact ⟨rfl, rfl⟩))
    (fun os started H enc _ => lifted os started H enc)
theorem card : Rows.FileSumsCardSaid :=
  Claim7.holds_tied_plain_at .later [] [.data, .pinned] true (true, "37f400f8b40fd4b1a643264fdb047bac232f4144e1f8b8841a7bce3d511e1a6d") true
    over (fun _ h => by cases h) (by kernel_rfl) (fun _ h => by cases h) fileSums_row_tie rfl ⟨rfl, rfl⟩ (by kernel_rfl) rfl
    (fun f fn hf hfn => by
      obtain rfl : f = 4 := Option.some.inj ((show Tryd.prog.funcNamed "cenotaph/cenotaphlaw08.FileSums" = some 4 by kernel_rfl).symm.trans hf) |>.symm
      obtain rfl : fn = Tryd.f4 := (Option.some.inj (Tryd.func4.symm.trans hfn)).symm
      exact ⟨by kernel_rfl, fun j t ht => by
        rw [Tryd.params4] at ht
        have hm : t ∈ [22, 3] := by have := Array.mem_of_getElem? ht; simp at this; simp; exact this
        have hall : ([22, 3].all fun u => !Tryd.prog.wantsStandIn u) = true := by kernel_rfl
        exact (show Tryd.prog.wantsStandIn t = false by simpa using List.all_eq_true.1 hall t hm)⟩)
    (by kernel_rfl)
end fileSums
/-- THE STATEMENT -/
theorem fileSums_proved : Rows.FileSumsCardSaid := fileSums.card
#print axioms fileSums_proved
end Go.Proofs.YthdoklobbcedcadDoor
