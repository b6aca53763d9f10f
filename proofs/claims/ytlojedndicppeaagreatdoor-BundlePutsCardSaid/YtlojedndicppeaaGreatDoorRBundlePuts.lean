/-
  BundlePuts: whatever the input, the law answers true, and each argument reads as it did. No condition.
-/
import Derived.Test.YtlojedndicppeaaGreatDoorCenRow
import Derived.Test.YtlojedndicppeaaGreatDoorCenTb
import Derived.Test.YtlojedndicppeaaGreatDoorLBundlePuts
import Derived.Test.YtlojedndicppeaaGreatDoorGuQ
import Derived.Test.YtlojedndicppeaaGreatDoorRows
import Derived.Test.YtlojedndicppeaaGreatDoorCards
import Derived.Test.YtlojedndicppeaaGreatDoorTie
import Derived.ChangeVars
import Derived.LaidLaws
import Derived.LaidHandle
import Derived.MakeChecks
import Derived.SevenTiedAt
import Derived.Stop.Joined
set_option linter.unusedVariables false
set_option linter.unusedSimpArgs false
set_option maxRecDepth 100000
namespace Go.Proofs.YtlojedndicppeaaGreatDoor
namespace bundlePuts
open Go.Cen Go.ChangeShapes Go.WideShapes Go.ChangeAt Go.RowKit
def ok_ApiEvent (u : ApiEvent) : Prop := (okI .i64) u.Kind ∧ (okI .i64) u.ID ∧ (fun s => s.size ≤ maxLen) u.Name ∧ (okI .i64) u.Time ∧ (okI .i64) u.Len ∧ (fun xs => xs.length = 32 ∧ ∀ x ∈ xs, (okI .u8) x) u.Sum
set_option maxRecDepth 100000 in
theorem open_ApiEvent {H : Type} {enc : TypeId × Value → H} {W : World} : OpenT enc Tryz.prog W 50 c_ApiEvent ok_ApiEvent := by
  intro fuel cs x h
  obtain ⟨hl, hf⟩ := OpenT.field Tryz.underlying50 h
  obtain ⟨u0, e0, k0⟩ := hf 0 _ rfl (OpenT.int (k := .i64) Tryz.underlying48)
  obtain ⟨u1, e1, k1⟩ := hf 1 _ rfl (OpenT.int (k := .i64) Tryz.underlying3)
  obtain ⟨u2, e2, k2⟩ := hf 2 _ rfl (OpenT.str Tryz.underlying9)
  obtain ⟨u3, e3, k3⟩ := hf 3 _ rfl (OpenT.int (k := .i64) Tryz.underlying3)
  obtain ⟨u4, e4, k4⟩ := hf 4 _ rfl (OpenT.int (k := .i64) Tryz.underlying3)
  obtain ⟨u5, e5, k5⟩ := hf 5 _ rfl (OpenT.arr (ev := (Value.int .u8)) Tryz.underlying23 (OpenT.int (k := .u8) Tryz.underlying5) (by kernel_rfl) (by kernel_rfl))
  have e0 : (cs.drop 0).take (Tryz.prog.cellsOf 48) = (cI .i64) u0 := e0
  rw [show Tryz.prog.cellsOf 48 = 1 from by kernel_rfl] at e0
  have e1 : (cs.drop 1).take (Tryz.prog.cellsOf 3) = (cI .i64) u1 := e1
  rw [show Tryz.prog.cellsOf 3 = 1 from by kernel_rfl] at e1
  have e2 : (cs.drop 2).take (Tryz.prog.cellsOf 9) = cS u2 := e2
  rw [show Tryz.prog.cellsOf 9 = 1 from by kernel_rfl] at e2
  have e3 : (cs.drop 3).take (Tryz.prog.cellsOf 3) = (cI .i64) u3 := e3
  rw [show Tryz.prog.cellsOf 3 = 1 from by kernel_rfl] at e3
  have e4 : (cs.drop 4).take (Tryz.prog.cellsOf 3) = (cI .i64) u4 := e4
  rw [show Tryz.prog.cellsOf 3 = 1 from by kernel_rfl] at e4
  have e5 : (cs.drop 5).take (Tryz.prog.cellsOf 23) = (cA (Value.int .u8)) u5 := e5
  rw [show Tryz.prog.cellsOf 23 = 32 from by kernel_rfl] at e5
  rw [show Tryz.prog.cellsOf 50 = 37 from by kernel_rfl] at hl
  have s6 : cs.drop 37 = [] := split_end hl (by decide)
  have s5 := split_more e5 (by decide) s6
  have s4 := split_more e4 (by decide) s5
  have s3 := split_more e3 (by decide) s4
  have s2 := split_more e2 (by decide) s3
  have s1 := split_more e1 (by decide) s2
  have s0 := split_more e0 (by decide) s1
  refine ⟨⟨u0, u1, u2, u3, u4, u5⟩, ?_, ⟨k0, k1, k2, k3, k4, k5⟩⟩
  exact s0.trans (by simp [c_ApiEvent, cI, cB, cS])
def enx_BundleBundle (x : (Int × (List Int) × SlT ApiEvent × Unit)) : List Value := (cI .i64) x.1 ++ ((cA (Value.int .u8)) x.2.1 ++ (enSl x.2.2.1 ++ []))
def okx_BundleBundle (W : World) (x : (Int × (List Int) × SlT ApiEvent × Unit)) : Prop := (okI .i64) x.1 ∧ (fun xs => xs.length = 32 ∧ ∀ x ∈ xs, (okI .u8) x) x.2.1 ∧ (okSl W c_ApiEvent 37 ok_ApiEvent) x.2.2.1 ∧ True
set_option maxRecDepth 100000 in
theorem openx_BundleBundle {H : Type} {enc : TypeId × Value → H} {W : World} : OpenT enc Tryz.prog W 26 enx_BundleBundle (okx_BundleBundle W) := by
  intro fuel cs x h
  obtain ⟨hl, hf⟩ := OpenT.field Tryz.underlying26 h
  obtain ⟨u0, e0, k0⟩ := hf 0 _ rfl (OpenT.int (k := .i64) Tryz.underlying3)
  have e0 : (cs.drop 0).take (Tryz.prog.cellsOf 3) = (cI .i64) u0 := e0
  rw [show Tryz.prog.cellsOf 3 = 1 from by kernel_rfl] at e0
  obtain ⟨u1, e1, k1⟩ := hf 1 _ rfl (OpenT.arr (ev := (Value.int .u8)) Tryz.underlying23 (OpenT.int (k := .u8) Tryz.underlying5) (by kernel_rfl) (by kernel_rfl))
  have e1 : (cs.drop 1).take (Tryz.prog.cellsOf 23) = (cA (Value.int .u8)) u1 := e1
  rw [show Tryz.prog.cellsOf 23 = 32 from by kernel_rfl] at e1
  obtain ⟨u2, e2, k2⟩ := hf 2 _ rfl (OpenT.slice Tryz.underlying24 open_ApiEvent (by kernel_rfl) (by kernel_rfl))
  have e2 : (cs.drop 33).take (Tryz.prog.cellsOf 24) = enSl u2 := e2
  rw [show Tryz.prog.cellsOf 24 = 1 from by kernel_rfl] at e2
  rw [show Tryz.prog.cellsOf 26 = 34 from by kernel_rfl] at hl
  have s3 : cs.drop 34 = [] := split_end hl (by decide)
  have s2 := split_more e2 (by decide) s3
  have s1 := split_more e1 (by decide) s2
  have s0 := split_more e0 (by decide) s1
  exact ⟨(u0, u1, u2, ()), s0, ⟨k0, k1, k2, trivial⟩⟩
def tabN1 : List Int := [0, 1, 28, 2, 29, 14, 24, 3, 30, 22, 20, 15, 25, 17, 4, 8, 31, 27, 13, 23, 21, 19, 16, 7, 26, 12, 18, 6, 11, 5, 10, 9]
def tabN2 : List Int := [0, 1, 56, 2, 57, 49, 28, 3, 61, 58, 42, 50, 38, 29, 17, 4, 62, 47, 59, 36, 45, 43, 51, 22, 53, 39, 33, 30, 24, 18, 12, 5, 63, 55, 48, 27, 60, 41, 37, 16, 46, 35, 44, 21, 52, 32, 23, 11, 54, 26, 40, 15, 34, 20, 31, 10, 25, 14, 19, 9, 13, 8, 7, 6]
theorem tabs_of {W : World} (h : laidMetH Tryz.prog Rows.bundlePutsRow.laid W) : Tabs (heapOf W) := by
  rw [MakeChecks.laidMetH_plain _ _ _ (by kernel_rfl)] at h
  have h0 := Lib.laidMet.reads h (n := "internal/strconv.uint64pow10") (d := Rows.laid_internal_strconv_uint64pow10) (by simp only [Rows.bundlePutsRow, List.mem_cons, true_or, or_true])
  have e0 : (Rows.laid_internal_strconv_uint64pow10 : DataW Unit) = Lib.tabData .u64 tab0 := by kernel_rfl
  rw [e0] at h0
  exact ⟨tab_block (by kernel_rfl) (by kernel_rfl) Tryz.underlying157 Tryz.underlying135 (by kernel_rfl) (by kernel_rfl) h0, trivial⟩
/-- A world that meets the condition: the settled one, the tables laid. -/
noncomputable def laidWorld (os : Os) : World := { World.holding Tryz.prog os ⟨#[], #[], []⟩ with heap := ((((World.holding Tryz.prog os ⟨#[], #[], []⟩).heap.modify 0 fun | .cells _ t fz => .cells (tab0.map fun z => Value.int .u64 z).toArray t fz | o => o).modify 1 fun | .cells _ t fz => .cells (tabN1.map fun z => Value.int .u8 z).toArray t fz | o => o).modify 2 fun | .cells _ t fz => .cells (tabN2.map fun z => Value.int .u8 z).toArray t fz | o => o) }
theorem laid_met (os : Os) (args : Array Value) : laidMetH Tryz.prog Rows.bundlePutsRow.laid ((laidWorld os).forCall (fun _ _ => 0) ⟨#[], args, []⟩).memory :=
  laidMetH_of_parts (laidMet_of_run' 8 (by kernel_rfl) (by kernel_rfl)) (by kernel_rfl)
theorem own : ownKnob Tryz.prog.godebug = none := by kernel_rfl
set_option maxRecDepth 100000 in
theorem contract (H : Type) (enc : TypeId × Value → H) (W : World) (base : Nat) (args : Array Value) (ds gs : List (DataW H)) (before : List MemPlace)
    (hval : ∀ (j : Nat) t v, Tryz.f3.params[j]? = some t → args[j]? = some v → Value.okWide Tryz.prog W .any base t v)
    (hW : DataW.Whole enc Tryz.prog Tryz.f3.params.toList Rows.bundlePutsSpec.vars false W args.toList ds gs before) (hL : laidMetH Tryz.prog Rows.bundlePutsRow.laid W) :
    Calls Tryz.prog 3 args W fun e W' => ∃ v, e = .returned v ∧ Rows.bundlePutsSpec.post enc Tryz.prog Tryz.f3 false true false false W args v W' := by
  have hW' := hW
  obtain ⟨p, q, hA0, hV, rfl, hfz, hnd⟩ := hW
  have hA : DataW.TrodAll enc Tryz.prog W 0 (fun _ => true) true Tryz.f3.params.toList args.toList ds p := hA0
  rw [Tryz.params3] at hA hval
  obtain ⟨v0, vs0, d0, ds0, p0, q0, hargs, rfl, rfl, h0, r0⟩ := trodAll_cons hA
  obtain ⟨v1, vs1, d1, ds1, p1, q1, rfl, rfl, rfl, h1, r1⟩ := trodAll_cons r0
  obtain ⟨rfl, rfl, rfl⟩ := trodAll_nil r1
  obtain rfl : args = #[v0, v1] := by cases args; simp_all
  clear hA0
  obtain ⟨⟨u0_0, u0_1, ⟨A0_2, c0_2_, u0_2⟩, _⟩, rfl, w0⟩ := arg_row openx_BundleBundle (okWide_row (.inl ⟨_, Tryz.underlying26⟩) (hval 0 26 v0 rfl rfl)) h0
  obtain ⟨⟨u1_0, u1_1, ⟨A1_2, c1_2_, u1_2⟩, _⟩, rfl, w1⟩ := arg_row openx_BundleBundle (okWide_row (.inl ⟨_, Tryz.underlying26⟩) (hval 1 26 v1 rfl rfl)) h1
  have law : law11_BundlePuts u0_0 u0_1 u0_2 u1_0 u1_1 u1_2 = some true := law11_BundlePuts_eq u0_0 u0_1 u0_2 u1_0 u1_1 u1_2 w0.2.1.1 (isB_of w0.2.1.2) (fun e he => ⟨(w0.2.2.1.2 e he).2.2.2.2.2.1, isB_of (w0.2.2.1.2 e he).2.2.2.2.2.2⟩) w1.2.1.1 (isB_of w1.2.1.2) (fun e he => ⟨(w1.2.2.1.2 e he).2.2.2.2.2.1, isB_of (w1.2.2.1.2 e he).2.2.2.2.2.2⟩)
  have hT := tabs_of hL
  refine (c3 W W (heapOf W) emp (Inv.start W) hT u0_0 u0_1 w0.2.1.1 A0_2 c0_2_ u0_2 w0.2.2.1.1 u1_0 u1_1 w1.2.1.1 A1_2 c1_2_ u1_2 w1.2.2.1.1 true law).mono fun e W' ⟨he, hI⟩ => ?_
  subst he
  exact ⟨_, rfl, post_law (by kernel_rfl) (by kernel_rfl) rfl Tryz.underlying4 rfl rfl rfl rfl hW' hI.below⟩
set_option maxRecDepth 100000 in
theorem lifted (os : Os) (started : os.Started) (H : Type) (enc : TypeId × Value → H) :
    ReturnsInHanded {} Tryz.checked os 3 .any (fun w args => (Rows.bundlePutsSpec.pre enc Tryz.prog Tryz.f3 [] false w args ∧ laidMetH Tryz.prog Rows.bundlePutsRow.laid w) ∧ sizedMet enc Tryz.prog Tryz.f3 (OpenSpec.ofChange Rows.bundlePutsSpec) false w args)
      (Rows.bundlePutsSpec.post enc Tryz.prog Tryz.f3 false true false false) := by
  refine returnsInHanded_of_change_and (C := Tryz.checked) (X := fun w _ => laidMetH Tryz.prog Rows.bundlePutsRow.laid w) (fun _ _ _ hh h => h.of_heap hh) own started (by kernel_rfl) Tryz.func3
    (ChangeSpec.witness_at (enc := enc) (C := Tryz.checked) (os := os) (X := fun w _ => laidMetH Tryz.prog Rows.bundlePutsRow.laid w) false (laidWorld os) #[.agg (([.int .i64 0] : List Value) ++ (List.replicate 32 (.int .u8 0 : Value)) ++ ([.slice none 0 0] : List Value)).toArray, .agg (([.int .i64 0] : List Value) ++ (List.replicate 32 (.int .u8 0 : Value)) ++ ([.slice none 0 0] : List Value)).toArray] 8 rfl (by kernel_rfl) (by kernel_rfl) (by kernel_rfl) (by kernel_rfl) (by kernel_rfl) (laid_met os _)) ?_
  intro W base args ds gs before hval hW _ _ hL _
  exact contract H enc W base args ds gs before hval hW hL
theorem over : Rows.bundlePutsRow.holds Tryz.pinned (OpenSpec.ofChange Rows.bundlePutsSpec) :=
  OpenClaim.holds_of_wide 3 Tryz.f3 rfl rfl rfl rfl rfl rfl rfl ⟨rfl, rfl, rfl, rfl, rfl⟩ rfl rfl rfl rfl rfl (by kernel_rfl) Tryz.func3 (by kernel_rfl)
    (of_decide_eq_true (by kernel_rfl)) (by unfold Func.isWrapper; first | (rw [if_pos (by decide +kernel)]; kernel_rfl) | (rw [if_neg (by decide +kernel)]; exact ⟨rfl, rfl⟩))
    (fun os started H enc _ => lifted os started H enc)
theorem card : Rows.BundlePutsCardSaid :=
  Claim7.holds_tied_plain_at .later [] [.data, .data, .data] true (true, "1330a98ff2bcf2bb2be324c13995ad1e96d733381e0fa1d55ea34ee6b20373c5") true
    over (fun _ h => by cases h) (by kernel_rfl) (fun _ h => by cases h) bundlePuts_row_tie rfl ⟨rfl, rfl⟩ (by kernel_rfl) rfl
    (fun f fn hf hfn => by
      obtain rfl : f = 3 := Option.some.inj ((show Tryz.prog.funcNamed "cenotaph/cenotaphlaw11.BundlePuts" = some 3 by kernel_rfl).symm.trans hf) |>.symm
      obtain rfl : fn = Tryz.f3 := (Option.some.inj (Tryz.func3.symm.trans hfn)).symm
      exact ⟨by kernel_rfl, fun j t ht => by
        rw [Tryz.params3] at ht
        have hm : t ∈ [26] := by have := Array.mem_of_getElem? ht; simp at this; simp; exact this
        have hall : ([26].all fun u => !Tryz.prog.wantsStandIn u) = true := by kernel_rfl
        exact (show Tryz.prog.wantsStandIn t = false by simpa using List.all_eq_true.1 hall t hm)⟩)
    (by kernel_rfl)
end bundlePuts
/-- THE STATEMENT -/
theorem bundlePuts_proved : Rows.BundlePutsCardSaid := bundlePuts.card
#print axioms bundlePuts_proved
end Go.Proofs.YtlojedndicppeaaGreatDoor
