/-
  BundleGets: whatever the input, the law answers true, and each argument reads as it did. No condition.
-/
import Derived.Test.YtlojedndicppeaaGreatDoorCenRow
import Derived.Test.YtlojedndicppeaaGreatDoorCenTb
import Derived.Test.YtlojedndicppeaaGreatDoorLBundleGets
import Derived.Test.YtlojedndicppeaaGreatDoorGuG
import Derived.Test.YtlojedndicppeaaGreatDoorRows
import Derived.Test.YtlojedndicppeaaGreatDoorCards
import Derived.Test.YtlojedndicppeaaGreatDoorTie
import Derived.ChangeVars
import Derived.LaidLaws
import Derived.LaidHandle
import Derived.MakeChecks
import Derived.SevenTiedAt
import Derived.Stop.Joined
set_option linter.unusedVariables false
set_option linter.unusedSimpArgs false
set_option maxRecDepth 100000
namespace Go.Proofs.YtlojedndicppeaaGreatDoor
namespace bundleGets
open Go.Cen Go.ChangeShapes Go.WideShapes Go.ChangeAt Go.RowKit
def tabN1 : List Int := [0, 1, 28, 2, 29, 14, 24, 3, 30, 22, 20, 15, 25, 17, 4, 8, 31, 27, 13, 23, 21, 19, 16, 7, 26, 12, 18, 6, 11, 5, 10, 9]
def tabN2 : List Int := [0, 1, 56, 2, 57, 49, 28, 3, 61, 58, 42, 50, 38, 29, 17, 4, 62, 47, 59, 36, 45, 43, 51, 22, 53, 39, 33, 30, 24, 18, 12, 5, 63, 55, 48, 27, 60, 41, 37, 16, 46, 35, 44, 21, 52, 32, 23, 11, 54, 26, 40, 15, 34, 20, 31, 10, 25, 14, 19, 9, 13, 8, 7, 6]
theorem tabs_of {W : World} (h : laidMetH Tryz.prog Rows.bundleGetsRow.laid W) : Tabs (heapOf W) := by
  rw [MakeChecks.laidMetH_plain _ _ _ (by kernel_rfl)] at h
  have h0 := Lib.laidMet.reads h (n := "internal/strconv.uint64pow10") (d := Rows.laid_internal_strconv_uint64pow10) (by simp only [Rows.bundleGetsRow, List.mem_cons, true_or, or_true])
  have e0 : (Rows.laid_internal_strconv_uint64pow10 : DataW Unit) = Lib.tabData .u64 tab0 := by kernel_rfl
  rw [e0] at h0
  exact ⟨tab_block (by kernel_rfl) (by kernel_rfl) Tryz.underlying157 Tryz.underlying135 (by kernel_rfl) (by kernel_rfl) h0, trivial⟩
/-- A world that meets the condition: the settled one, the tables laid. -/
noncomputable def laidWorld (os : Os) : World := { World.holding Tryz.prog os ⟨#[], #[], []⟩ with heap := ((((World.holding Tryz.prog os ⟨#[], #[], []⟩).heap.modify 0 fun | .cells _ t fz => .cells (tab0.map fun z => Value.int .u64 z).toArray t fz | o => o).modify 1 fun | .cells _ t fz => .cells (tabN1.map fun z => Value.int .u8 z).toArray t fz | o => o).modify 2 fun | .cells _ t fz => .cells (tabN2.map fun z => Value.int .u8 z).toArray t fz | o => o) }
theorem laid_met (os : Os) (args : Array Value) : laidMetH Tryz.prog Rows.bundleGetsRow.laid ((laidWorld os).forCall (fun _ _ => 0) ⟨#[], args, []⟩).memory :=
  laidMetH_of_parts (laidMet_of_run' 8 (by kernel_rfl) (by kernel_rfl)) (by kernel_rfl)
theorem own : ownKnob Tryz.prog.godebug = none := by kernel_rfl
set_option maxRecDepth 100000 in
theorem contract (H : Type) (enc : TypeId × Value → H) (W : World) (base : Nat) (args : Array Value) (ds gs : List (DataW H)) (before : List MemPlace)
    (hval : ∀ (j : Nat) t v, Tryz.f4.params[j]? = some t → args[j]? = some v → Value.okWide Tryz.prog W .any base t v)
    (hW : DataW.Whole enc Tryz.prog Tryz.f4.params.toList Rows.bundleGetsSpec.vars false W args.toList ds gs before) (hL : laidMetH Tryz.prog Rows.bundleGetsRow.laid W) :
    Calls Tryz.prog 4 args W fun e W' => ∃ v, e = .returned v ∧ Rows.bundleGetsSpec.post enc Tryz.prog Tryz.f4 false true false false W args v W' := by
  have hW' := hW
  obtain ⟨p, q, hA0, hV, rfl, hfz, hnd⟩ := hW
  have hA : DataW.TrodAll enc Tryz.prog W 0 (fun _ => true) true Tryz.f4.params.toList args.toList ds p := hA0
  rw [Tryz.params4] at hA hval
  obtain ⟨v0, vs0, d0, ds0, p0, q0, hargs, rfl, rfl, h0, r0⟩ := trodAll_cons hA
  obtain ⟨rfl, rfl, rfl⟩ := trodAll_nil r0
  obtain rfl : args = #[v0] := by cases args; simp_all
  clear hA0
  obtain ⟨a0, rfl, w0⟩ := arg_str Tryz.underlying9 (hval 0 9 v0 rfl rfl) h0
  have law : law11_BundleGets a0 = some true := law11_BundleGets_eq a0
  have hT := tabs_of hL
  refine (c4 W W (heapOf W) emp (Inv.start W) hT a0 true law).mono fun e W' ⟨he, hI⟩ => ?_
  subst he
  exact ⟨_, rfl, post_law (by kernel_rfl) (by kernel_rfl) rfl Tryz.underlying4 rfl rfl rfl rfl hW' hI.below⟩
set_option maxRecDepth 100000 in
theorem lifted (os : Os) (started : os.Started) (H : Type) (enc : TypeId × Value → H) :
    ReturnsInHanded {} Tryz.checked os 4 .any (fun w args => (Rows.bundleGetsSpec.pre enc Tryz.prog Tryz.f4 [] false w args ∧ laidMetH Tryz.prog Rows.bundleGetsRow.laid w) ∧ sizedMet enc Tryz.prog Tryz.f4 (OpenSpec.ofChange Rows.bundleGetsSpec) false w args)
      (Rows.bundleGetsSpec.post enc Tryz.prog Tryz.f4 false true false false) := by
  refine returnsInHanded_of_change_and (C := Tryz.checked) (X := fun w _ => laidMetH Tryz.prog Rows.bundleGetsRow.laid w) (fun _ _ _ hh h => h.of_heap hh) own started (by kernel_rfl) Tryz.func4
    (ChangeSpec.witness_at (enc := enc) (C := Tryz.checked) (os := os) (X := fun w _ => laidMetH Tryz.prog Rows.bundleGetsRow.laid w) false (laidWorld os) #[.string ⟨#[]⟩] 8 rfl (by kernel_rfl) (by kernel_rfl) (by kernel_rfl) (by kernel_rfl) (by kernel_rfl) (laid_met os _)) ?_
  intro W base args ds gs before hval hW _ _ hL _
  exact contract H enc W base args ds gs before hval hW hL
theorem over : Rows.bundleGetsRow.holds Tryz.pinned (OpenSpec.ofChange Rows.bundleGetsSpec) :=
  OpenClaim.holds_of_wide 4 Tryz.f4 rfl rfl rfl rfl rfl rfl rfl ⟨rfl, rfl, rfl, rfl, rfl⟩ rfl rfl rfl rfl rfl (by kernel_rfl) Tryz.func4 (by kernel_rfl)
    (of_decide_eq_true (by kernel_rfl)) (by unfold Func.isWrapper; first | (rw [if_pos (by decide +kernel)]; kernel_rfl) | (rw [if_neg (by decide +kernel)]; exact ⟨rfl, rfl⟩))
    (fun os started H enc _ => lifted os started H enc)
theorem card : Rows.BundleGetsCardSaid :=
  Claim7.holds_tied_plain_at .later [] [.data, .data, .data] true (true, "1330a98ff2bcf2bb2be324c13995ad1e96d733381e0fa1d55ea34ee6b20373c5") true
    over (fun _ h => by cases h) (by kernel_rfl) (fun _ h => by cases h) bundleGets_row_tie rfl ⟨rfl, rfl⟩ (by kernel_rfl) rfl
    (fun f fn hf hfn => by
      obtain rfl : f = 4 := Option.some.inj ((show Tryz.prog.funcNamed "cenotaph/cenotaphlaw11.BundleGets" = some 4 by kernel_rfl).symm.trans hf) |>.symm
      obtain rfl : fn = Tryz.f4 := (Option.some.inj (Tryz.func4.symm.trans hfn)).symm
      exact ⟨by kernel_rfl, fun j t ht => by
        rw [Tryz.params4] at ht
        have hm : t ∈ [9] := by have := Array.mem_of_getElem? ht; simp at this; simp; exact this
        have hall : ([9].all fun u => !Tryz.prog.wantsStandIn u) = true := by kernel_rfl
        exact (show Tryz.prog.wantsStandIn t = false by simpa using List.all_eq_true.1 hall t hm)⟩)
    (by kernel_rfl)
end bundleGets
/-- THE STATEMENT -/
theorem bundleGets_proved : Rows.BundleGetsCardSaid := bundleGets.card
#print axioms bundleGets_proved
end Go.Proofs.YtlojedndicppeaaGreatDoor
