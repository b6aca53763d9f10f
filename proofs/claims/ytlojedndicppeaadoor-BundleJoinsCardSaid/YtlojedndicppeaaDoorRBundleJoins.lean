/-
  BundleJoins: whatever the input, the law answers true, and each argument reads as it did. No condition.
-/
import Derived.Test.YtlojedndicppeaaDoorCenRow
import Derived.Test.YtlojedndicppeaaDoorCenTb
import Derived.Test.YtlojedndicppeaaDoorLBundleJoins
import Derived.Test.YtlojedndicppeaaDoorBuW
import Derived.Test.YtlojedndicppeaaDoorRows
import Derived.Test.YtlojedndicppeaaDoorCards
import Derived.Test.YtlojedndicppeaaDoorTie
import Derived.ChangeVars
import Derived.LaidLaws
import Derived.LaidHandle
import Derived.MakeChecks
import Derived.SevenTiedAt
import Derived.Stop.Joined
set_option linter.unusedVariables false
set_option linter.unusedSimpArgs false
set_option maxRecDepth 100000
namespace Go.Proofs.YtlojedndicppeaaDoor
namespace bundleJoins
open Go.Cen Go.ChangeShapes Go.WideShapes Go.ChangeAt Go.RowKit
def ok_ApiEvent (u : ApiEvent) : Prop := (okI .i64) u.Kind ∧ (okI .i64) u.ID ∧ (fun s => s.size ≤ maxLen) u.Name ∧ (okI .i64) u.Time ∧ (okI .i64) u.Len ∧ (fun xs => xs.length = 32 ∧ ∀ x ∈ xs, (okI .u8) x) u.Sum
set_option maxRecDepth 100000 in
theorem open_ApiEvent {H : Type} {enc : TypeId × Value → H} {W : World} : OpenT enc Tryd.prog W 40 c_ApiEvent ok_ApiEvent := by
  intro fuel cs x h
  obtain ⟨hl, hf⟩ := OpenT.field Tryd.underlying40 h
  obtain ⟨u0, e0, k0⟩ := hf 0 _ rfl (OpenT.int (k := .i64) Tryd.underlying38)
  obtain ⟨u1, e1, k1⟩ := hf 1 _ rfl (OpenT.int (k := .i64) Tryd.underlying3)
  obtain ⟨u2, e2, k2⟩ := hf 2 _ rfl (OpenT.str Tryd.underlying9)
  obtain ⟨u3, e3, k3⟩ := hf 3 _ rfl (OpenT.int (k := .i64) Tryd.underlying3)
  obtain ⟨u4, e4, k4⟩ := hf 4 _ rfl (OpenT.int (k := .i64) Tryd.underlying3)
  obtain ⟨u5, e5, k5⟩ := hf 5 _ rfl (OpenT.arr (ev := (Value.int .u8)) Tryd.underlying23 (OpenT.int (k := .u8) Tryd.underlying5) (by kernel_rfl) (by kernel_rfl))
  have e0 : (cs.drop 0).take (Tryd.prog.cellsOf 38) = (cI .i64) u0 := e0
  rw [show Tryd.prog.cellsOf 38 = 1 from by kernel_rfl] at e0
  have e1 : (cs.drop 1).take (Tryd.prog.cellsOf 3) = (cI .i64) u1 := e1
  rw [show Tryd.prog.cellsOf 3 = 1 from by kernel_rfl] at e1
  have e2 : (cs.drop 2).take (Tryd.prog.cellsOf 9) = cS u2 := e2
  rw [show Tryd.prog.cellsOf 9 = 1 from by kernel_rfl] at e2
  have e3 : (cs.drop 3).take (Tryd.prog.cellsOf 3) = (cI .i64) u3 := e3
  rw [show Tryd.prog.cellsOf 3 = 1 from by kernel_rfl] at e3
  have e4 : (cs.drop 4).take (Tryd.prog.cellsOf 3) = (cI .i64) u4 := e4
  rw [show Tryd.prog.cellsOf 3 = 1 from by kernel_rfl] at e4
  have e5 : (cs.drop 5).take (Tryd.prog.cellsOf 23) = (cA (Value.int .u8)) u5 := e5
  rw [show Tryd.prog.cellsOf 23 = 32 from by kernel_rfl] at e5
  rw [show Tryd.prog.cellsOf 40 = 37 from by kernel_rfl] at hl
  have s6 : cs.drop 37 = [] := split_end hl (by decide)
  have s5 := split_more e5 (by decide) s6
  have s4 := split_more e4 (by decide) s5
  have s3 := split_more e3 (by decide) s4
  have s2 := split_more e2 (by decide) s3
  have s1 := split_more e1 (by decide) s2
  have s0 := split_more e0 (by decide) s1
  refine ⟨⟨u0, u1, u2, u3, u4, u5⟩, ?_, ⟨k0, k1, k2, k3, k4, k5⟩⟩
  exact s0.trans (by simp [c_ApiEvent, cI, cB, cS])
def tabN1 : List Int := [0, 1, 28, 2, 29, 14, 24, 3, 30, 22, 20, 15, 25, 17, 4, 8, 31, 27, 13, 23, 21, 19, 16, 7, 26, 12, 18, 6, 11, 5, 10, 9]
def tabN2 : List Int := [0, 1, 56, 2, 57, 49, 28, 3, 61, 58, 42, 50, 38, 29, 17, 4, 62, 47, 59, 36, 45, 43, 51, 22, 53, 39, 33, 30, 24, 18, 12, 5, 63, 55, 48, 27, 60, 41, 37, 16, 46, 35, 44, 21, 52, 32, 23, 11, 54, 26, 40, 15, 34, 20, 31, 10, 25, 14, 19, 9, 13, 8, 7, 6]
theorem tabs_of {W : World} (h : laidMetH Tryd.prog Rows.bundleJoinsRow.laid W) : Tabs (heapOf W) := by
  rw [MakeChecks.laidMetH_plain _ _ _ (by kernel_rfl)] at h
  have h0 := Lib.laidMet.reads h (n := "internal/strconv.uint64pow10") (d := Rows.laid_internal_strconv_uint64pow10) (by simp only [Rows.bundleJoinsRow, List.mem_cons, true_or, or_true])
  have e0 : (Rows.laid_internal_strconv_uint64pow10 : DataW Unit) = Lib.tabData .u64 tab0 := by kernel_rfl
  rw [e0] at h0
  exact ⟨tab_block (by kernel_rfl) (by kernel_rfl) Tryd.underlying145 Tryd.underlying130 (by kernel_rfl) (by kernel_rfl) h0, trivial⟩
/-- A world that meets the condition: the settled one, the tables laid. -/
noncomputable def laidWorld (os : Os) : World := { World.holding Tryd.prog os ⟨#[], #[], []⟩ with heap := ((((World.holding Tryd.prog os ⟨#[], #[], []⟩).heap.modify 0 fun | .cells _ t fz => .cells (tab0.map fun z => Value.int .u64 z).toArray t fz | o => o).modify 1 fun | .cells _ t fz => .cells (tabN1.map fun z => Value.int .u8 z).toArray t fz | o => o).modify 2 fun | .cells _ t fz => .cells (tabN2.map fun z => Value.int .u8 z).toArray t fz | o => o) }
theorem laid_met (os : Os) (args : Array Value) : laidMetH Tryd.prog Rows.bundleJoinsRow.laid ((laidWorld os).forCall (fun _ _ => 0) ⟨#[], args, []⟩).memory :=
  laidMetH_of_parts (laidMet_of_run' 8 (by kernel_rfl) (by kernel_rfl)) (by kernel_rfl)
theorem own : ownKnob Tryd.prog.godebug = none := by kernel_rfl
set_option maxRecDepth 100000 in
theorem contract (H : Type) (enc : TypeId × Value → H) (W : World) (base : Nat) (args : Array Value) (ds gs : List (DataW H)) (before : List MemPlace)
    (hval : ∀ (j : Nat) t v, Tryd.f6.params[j]? = some t → args[j]? = some v → Value.okWide Tryd.prog W .any base t v)
    (hW : DataW.Whole enc Tryd.prog Tryd.f6.params.toList Rows.bundleJoinsSpec.vars false W args.toList ds gs before) (hL : laidMetH Tryd.prog Rows.bundleJoinsRow.laid W) :
    Calls Tryd.prog 6 args W fun e W' => ∃ v, e = .returned v ∧ Rows.bundleJoinsSpec.post enc Tryd.prog Tryd.f6 false true false false W args v W' := by
  have hW' := hW
  obtain ⟨p, q, hA0, hV, rfl, hfz, hnd⟩ := hW
  have hA : DataW.TrodAll enc Tryd.prog W 0 (fun _ => true) true Tryd.f6.params.toList args.toList ds p := hA0
  rw [Tryd.params6] at hA hval
  obtain ⟨v0, vs0, d0, ds0, p0, q0, hargs, rfl, rfl, h0, r0⟩ := trodAll_cons hA
  obtain ⟨v1, vs1, d1, ds1, p1, q1, rfl, rfl, rfl, h1, r1⟩ := trodAll_cons r0
  obtain ⟨v2, vs2, d2, ds2, p2, q2, rfl, rfl, rfl, h2, r2⟩ := trodAll_cons r1
  obtain ⟨v3, vs3, d3, ds3, p3, q3, rfl, rfl, rfl, h3, r3⟩ := trodAll_cons r2
  obtain ⟨rfl, rfl, rfl⟩ := trodAll_nil r3
  obtain rfl : args = #[v0, v1, v2, v3] := by cases args; simp_all
  clear hA0
  obtain ⟨A0, c0_, a0, rfl, s0, w0⟩ := arg_slice Tryd.underlying24 open_ApiEvent (by kernel_rfl) (by kernel_rfl) (no_agg Tryd.underlying24 (hval 0 24 v0 rfl rfl)) h0
  obtain ⟨a1, rfl, w1⟩ := arg_int Tryd.underlying3 (hval 1 3 v1 rfl rfl) h1
  obtain ⟨a2, rfl, w2⟩ := arg_int Tryd.underlying3 (hval 2 3 v2 rfl rfl) h2
  obtain ⟨a3, rfl, w3⟩ := arg_int Tryd.underlying3 (hval 3 3 v3 rfl rfl) h3
  have law : law11_BundleJoins a0 a1 a2 a3 = some true := law11_BundleJoins_eq a0 a1 a2 a3 (fun e he => ⟨(w0 e he).2.2.2.2.2.1, isB_of (w0 e he).2.2.2.2.2.2⟩)
  have hT := tabs_of hL
  refine (c6 W W (heapOf W) emp (Inv.start W) hT A0 c0_ a0 s0 a1 a2 a3 true law).mono fun e W' ⟨he, hI⟩ => ?_
  subst he
  exact ⟨_, rfl, post_law (by kernel_rfl) (by kernel_rfl) rfl Tryd.underlying4 rfl rfl rfl rfl hW' hI.below⟩
set_option maxRecDepth 100000 in
theorem lifted (os : Os) (started : os.Started) (H : Type) (enc : TypeId × Value → H) :
    ReturnsInHanded {} Tryd.checked os 6 .any (fun w args => (Rows.bundleJoinsSpec.pre enc Tryd.prog Tryd.f6 [] false w args ∧ laidMetH Tryd.prog Rows.bundleJoinsRow.laid w) ∧ sizedMet enc Tryd.prog Tryd.f6 (OpenSpec.ofChange Rows.bundleJoinsSpec) false w args)
      (Rows.bundleJoinsSpec.post enc Tryd.prog Tryd.f6 false true false false) := by
  refine returnsInHanded_of_change_and (C := Tryd.checked) (X := fun w _ => laidMetH Tryd.prog Rows.bundleJoinsRow.laid w) (fun _ _ _ hh h => h.of_heap hh) own started (by kernel_rfl) Tryd.func6
    (ChangeSpec.witness_at (enc := enc) (C := Tryd.checked) (os := os) (X := fun w _ => laidMetH Tryd.prog Rows.bundleJoinsRow.laid w) false (laidWorld os) #[.slice none 0 0, .int .i64 0, .int .i64 0, .int .i64 0] 8 rfl (by kernel_rfl) (by kernel_rfl) (by kernel_rfl) (by kernel_rfl) (by kernel_rfl) (laid_met os _)) ?_
  intro W base args ds gs before hval hW _ _ hL _
  exact contract H enc W base args ds gs before hval hW hL
theorem over : Rows.bundleJoinsRow.holds Tryd.pinned (OpenSpec.ofChange Rows.bundleJoinsSpec) :=
  OpenClaim.holds_of_wide 6 Tryd.f6 rfl rfl rfl rfl rfl rfl rfl ⟨rfl, rfl, rfl, rfl, rfl⟩ rfl rfl rfl rfl rfl (by kernel_rfl) Tryd.func6 (by kernel_rfl)
    (of_decide_eq_true (by kernel_rfl)) (by unfold Func.isWrapper; first | (rw [if_pos (by decide +kernel)]; kernel_rfl) | (rw [if_neg (by decide +kernel)]; exact ⟨rfl, rfl⟩))
    (fun os started H enc _ => lifted os started H enc)
theorem card : Rows.BundleJoinsCardSaid :=
  Claim7.holds_tied_plain_at .later [] [.data, .data, .data] true (true, "07969b91de3b2a9d468190159334e3e976dc1bfa256e52456b0d8f293b0c0a54") true
    over (fun _ h => by cases h) (by kernel_rfl) (fun _ h => by cases h) bundleJoins_row_tie rfl ⟨rfl, rfl⟩ (by kernel_rfl) rfl
    (fun f fn hf hfn => by
      obtain rfl : f = 6 := Option.some.inj ((show Tryd.prog.funcNamed "cenotaph/cenotaphlaw11.BundleJoins" = some 6 by kernel_rfl).symm.trans hf) |>.symm
      obtain rfl : fn = Tryd.f6 := (Option.some.inj (Tryd.func6.symm.trans hfn)).symm
      exact ⟨by kernel_rfl, fun j t ht => by
        rw [Tryd.params6] at ht
        have hm : t ∈ [24, 3] := by have := Array.mem_of_getElem? ht; simp at this; simp; exact this
        have hall : ([24, 3].all fun u => !Tryd.prog.wantsStandIn u) = true := by kernel_rfl
        exact (show Tryd.prog.wantsStandIn t = false by simpa using List.all_eq_true.1 hall t hm)⟩)
    (by kernel_rfl)
end bundleJoins
/-- THE STATEMENT -/
theorem bundleJoins_proved : Rows.BundleJoinsCardSaid := bundleJoins.card
#print axioms bundleJoins_proved
end Go.Proofs.YtlojedndicppeaaDoor
