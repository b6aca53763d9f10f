/-
  NameTells: whatever the input, the law answers true, and each argument reads as it did. No condition.
-/
import Derived.Test.YthdoklobbcedcaaDoorCenRow
import Derived.Test.YthdoklobbcedcaaDoorCenTab
import Derived.Test.YthdoklobbcedcaaDoorLNameTells
import Derived.Test.YthdoklobbcedcaaDoorTNameK
import Derived.Test.YthdoklobbcedcaaDoorRows
import Derived.Test.YthdoklobbcedcaaDoorCards
import Derived.Test.YthdoklobbcedcaaDoorTie
import Derived.ChangeVars
import Derived.LaidLaws
import Derived.LaidHandle
import Derived.MakeChecks
import Derived.SevenTiedAt
import Derived.Stop.Joined
set_option linter.unusedVariables false
set_option linter.unusedSimpArgs false
set_option maxRecDepth 100000
namespace Go.Proofs.YthdoklobbcedcaaDoor
namespace nameTells
open Go.Cen Go.ChangeShapes Go.WideShapes Go.ChangeAt Go.RowKit
theorem tabs_of {W : World} (h : laidMetH Tryd.prog Rows.nameTellsRow.laid W) : Tabs (heapOf W) := by
  rw [MakeChecks.laidMetH_plain _ _ _ (by kernel_rfl)] at h
  have h0 := Lib.laidMet.reads h (n := "unicode/utf8.first") (d := Rows.laid_unicode_utf8_first) (by simp only [Rows.nameTellsRow, List.mem_cons, true_or, or_true])
  have e0 : Rows.laid_unicode_utf8_first = Lib.tabData .u8 tab0 := by kernel_rfl
  rw [e0] at h0
  have h1 := Lib.laidMet.reads h (n := "unicode/utf8.acceptRanges") (d := Rows.laid_unicode_utf8_acceptRanges) (by simp only [Rows.nameTellsRow, List.mem_cons, true_or, or_true])
  have e1 : (Rows.laid_unicode_utf8_acceptRanges : DataW Unit) = .agg (tab1.map fun x => .agg (([x.lo, x.hi] : List Int).map fun z => .lit (.int .u8 z))) := by kernel_rfl
  rw [e1] at h1
  exact ⟨tab_ints (by kernel_rfl) (by kernel_rfl) Tryd.underlying63 Tryd.underlying5 (by kernel_rfl) (by kernel_rfl) h0 rfl (by decide),
    tab_structs (k := .u8) (m := 2) (num := fun (x : Utf8AcceptRange) => ([x.lo, x.hi] : List Int)) (fun _ => rfl) (fun _ => rfl) (by decide) (by kernel_rfl) (by kernel_rfl) Tryd.underlying66 Tryd.underlying65 (fun i f h => match i, h with | 0, h => by cases h; exact ⟨Tryd.underlying5, rfl, by kernel_rfl⟩ | 1, h => by cases h; exact ⟨Tryd.underlying5, rfl, by kernel_rfl⟩ | i + 2, h => by cases h) rfl (by kernel_rfl) (by kernel_rfl) h1 rfl (by decide), trivial⟩
/-- A world that meets the condition: the settled one, the tables laid. -/
noncomputable def laidWorld (os : Os) : World := { World.holding Tryd.prog os ⟨#[], #[], []⟩ with heap := (((World.holding Tryd.prog os ⟨#[], #[], []⟩).heap.modify 0 fun | .cells _ t fz => .cells (tab0.map fun z => Value.int .u8 z).toArray t fz | o => o).modify 1 fun | .cells _ t fz => .cells (tab1.flatMap c_Utf8AcceptRange).toArray t fz | o => o) }
theorem laid_met (os : Os) (args : Array Value) : laidMetH Tryd.prog Rows.nameTellsRow.laid ((laidWorld os).forCall (fun _ _ => 0) ⟨#[], args, []⟩).memory :=
  laidMetH_of_parts (laidMet_of_run' 8 (by kernel_rfl) (by kernel_rfl)) (by kernel_rfl)
theorem own : ownKnob Tryd.prog.godebug = none := by kernel_rfl
set_option maxRecDepth 100000 in
theorem contract (H : Type) (enc : TypeId × Value → H) (W : World) (base : Nat) (args : Array Value) (ds gs : List (DataW H)) (before : List MemPlace)
    (hval : ∀ (j : Nat) t v, Tryd.f3.params[j]? = some t → args[j]? = some v → Value.okWide Tryd.prog W .any base t v)
    (hW : DataW.Whole enc Tryd.prog Tryd.f3.params.toList Rows.nameTellsSpec.vars false W args.toList ds gs before) (hL : laidMetH Tryd.prog Rows.nameTellsRow.laid W) :
    Calls Tryd.prog 3 args W fun e W' => ∃ v, e = .returned v ∧ Rows.nameTellsSpec.post enc Tryd.prog Tryd.f3 false true false false W args v W' := by
  have hW' := hW
  obtain ⟨p, q, hA0, hV, rfl, hfz, hnd⟩ := hW
  have hA : DataW.TrodAll enc Tryd.prog W 0 (fun _ => true) true Tryd.f3.params.toList args.toList ds p := hA0
  rw [Tryd.params3] at hA hval
  obtain ⟨v0, vs0, d0, ds0, p0, q0, hargs, rfl, rfl, h0, r0⟩ := trodAll_cons hA
  obtain ⟨v1, vs1, d1, ds1, p1, q1, rfl, rfl, rfl, h1, r1⟩ := trodAll_cons r0
  obtain ⟨rfl, rfl, rfl⟩ := trodAll_nil r1
  obtain rfl : args = #[v0, v1] := by cases args; simp_all
  clear hA0
  obtain ⟨a0, rfl, w0⟩ := arg_str Tryd.underlying9 (hval 0 9 v0 rfl rfl) h0
  obtain ⟨a1, rfl, w1⟩ := arg_str Tryd.underlying9 (hval 1 9 v1 rfl rfl) h1
  have law : law03_NameTells a0 a1 = some true := law03_NameTells_eq a0 a1
  have hT := tabs_of hL
  refine (c3 W W (heapOf W) emp (Inv.start W) hT a0 a1 true law).mono fun e W' ⟨he, hI⟩ => ?_
  subst he
  exact ⟨_, rfl, post_law (by kernel_rfl) (by kernel_rfl) rfl Tryd.underlying4 rfl rfl rfl rfl hW' hI.below⟩
set_option maxRecDepth 100000 in
theorem lifted (os : Os) (started : os.Started) (H : Type) (enc : TypeId × Value → H) :
    ReturnsInHanded {} Tryd.checked os 3 .any (fun w args => (Rows.nameTellsSpec.pre enc Tryd.prog Tryd.f3 [] false w args ∧ laidMetH Tryd.prog Rows.nameTellsRow.laid w) ∧ sizedMet enc Tryd.prog Tryd.f3 (OpenSpec.ofChange Rows.nameTellsSpec) false w args)
      (Rows.nameTellsSpec.post enc Tryd.prog Tryd.f3 false true false false) := by
  refine returnsInHanded_of_change_and (C := Tryd.checked) (X := fun w _ => laidMetH Tryd.prog Rows.nameTellsRow.laid w) (fun _ _ _ hh h => h.of_heap hh) own started (by kernel_rfl) Tryd.func3
    (ChangeSpec.witness_at (enc := enc) (C := Tryd.checked) (os := os) (X := fun w _ => laidMetH Tryd.prog Rows.nameTellsRow.laid w) false (laidWorld os) #[.string ⟨#[]⟩, .string ⟨#[]⟩] 8 rfl (by kernel_rfl) (by kernel_rfl) (by kernel_rfl) (by kernel_rfl) (by kernel_rfl) (laid_met os _)) ?_
  intro W base args ds gs before hval hW _ _ hL _
  exact contract H enc W base args ds gs before hval hW hL
theorem over : Rows.nameTellsRow.holds Tryd.pinned (OpenSpec.ofChange Rows.nameTellsSpec) :=
  OpenClaim.holds_of_wide 3 Tryd.f3 rfl rfl rfl rfl rfl rfl rfl ⟨rfl, rfl, rfl, rfl, rfl⟩ rfl rfl rfl rfl rfl (by kernel_rfl) Tryd.func3 (by kernel_rfl)
    (of_decide_eq_true (by kernel_rfl)) (by unfold Func.isWrapper; first | (rw [if_pos (by decide +kernel)]; kernel_rfl) | (rw [if_neg (by decide +kernel)]; exact ⟨rfl, rfl⟩))
    (fun os started H enc _ => lifted os started H enc)
theorem card : Rows.NameTellsCardSaid :=
  Claim7.holds_tied_plain_at .later [] [.data, .pinned] true (true, "2111dd7c1724fef15455343bb83c79ddef0ce384acc4d87e59edd390b53e2792") false
    over (fun _ h => by cases h) (by kernel_rfl) (fun _ h => by cases h) nameTells_row_tie rfl ⟨rfl, rfl⟩ (by kernel_rfl) rfl
    (fun f fn hf hfn => by
      obtain rfl : f = 3 := Option.some.inj ((show Tryd.prog.funcNamed "cenotaph/cenotaphlaw03.NameTells" = some 3 by kernel_rfl).symm.trans hf) |>.symm
      obtain rfl : fn = Tryd.f3 := (Option.some.inj (Tryd.func3.symm.trans hfn)).symm
      exact ⟨by kernel_rfl, fun j t ht => by
        rw [Tryd.params3] at ht
        have hm : t ∈ [9] := by have := Array.mem_of_getElem? ht; simp at this; simp; exact this
        have hall : ([9].all fun u => !Tryd.prog.wantsStandIn u) = true := by kernel_rfl
        exact (show Tryd.prog.wantsStandIn t = false by simpa using List.all_eq_true.1 hall t hm)⟩)
    (by kernel_rfl)
end nameTells
/-- THE STATEMENT -/
theorem nameTells_proved : Rows.NameTellsCardSaid := nameTells.card
#print axioms nameTells_proved
end Go.Proofs.YthdoklobbcedcaaDoor
