/-
  EventApart: whatever the input, the law answers true, and each argument reads as it did. No condition.
-/
import Derived.Test.YtjbofffabkimeaaCenRow
import Derived.Test.YtjbofffabkimeaaCenOt
import Derived.Handed
import Derived.Test.YtjbofffabkimeaaLEventApart
import Derived.Test.YtjbofffabkimeaaAuB
import Derived.Test.YtjbofffabkimeaaRows
set_option linter.unusedVariables false
set_option linter.unusedSimpArgs false
set_option maxRecDepth 100000
namespace Go.Proofs.Ytjbofffabkimeaa
namespace eventApart
open Go.Cen Go.ChangeShapes Go.WideShapes Go.ChangeAt Go.RowKit
def ok_ApiEvent (u : ApiEvent) : Prop := (okI .i64) u.Kind ∧ (okI .i64) u.ID ∧ (fun s => s.size ≤ maxLen) u.Name ∧ (okI .i64) u.Time ∧ (okI .i64) u.Len ∧ (fun xs => xs.length = 32 ∧ ∀ x ∈ xs, (okI .u8) x) u.Sum
set_option maxRecDepth 100000 in
theorem open_ApiEvent {H : Type} {enc : TypeId × Value → H} {W : World} : OpenT enc Try.prog W 26 c_ApiEvent ok_ApiEvent := by
  intro fuel cs x h
  obtain ⟨hl, hf⟩ := OpenT.field Try.underlying26 h
  obtain ⟨u0, e0, k0⟩ := hf 0 _ rfl (OpenT.int (k := .i64) Try.underlying22)
  obtain ⟨u1, e1, k1⟩ := hf 1 _ rfl (OpenT.int (k := .i64) Try.underlying3)
  obtain ⟨u2, e2, k2⟩ := hf 2 _ rfl (OpenT.str Try.underlying9)
  obtain ⟨u3, e3, k3⟩ := hf 3 _ rfl (OpenT.int (k := .i64) Try.underlying3)
  obtain ⟨u4, e4, k4⟩ := hf 4 _ rfl (OpenT.int (k := .i64) Try.underlying3)
  obtain ⟨u5, e5, k5⟩ := hf 5 _ rfl (OpenT.arr (ev := (Value.int .u8)) Try.underlying24 (OpenT.int (k := .u8) Try.underlying5) (by kernel_rfl) (by kernel_rfl))
  have e0 : (cs.drop 0).take (Try.prog.cellsOf 22) = (cI .i64) u0 := e0
  rw [show Try.prog.cellsOf 22 = 1 from by kernel_rfl] at e0
  have e1 : (cs.drop 1).take (Try.prog.cellsOf 3) = (cI .i64) u1 := e1
  rw [show Try.prog.cellsOf 3 = 1 from by kernel_rfl] at e1
  have e2 : (cs.drop 2).take (Try.prog.cellsOf 9) = cS u2 := e2
  rw [show Try.prog.cellsOf 9 = 1 from by kernel_rfl] at e2
  have e3 : (cs.drop 3).take (Try.prog.cellsOf 3) = (cI .i64) u3 := e3
  rw [show Try.prog.cellsOf 3 = 1 from by kernel_rfl] at e3
  have e4 : (cs.drop 4).take (Try.prog.cellsOf 3) = (cI .i64) u4 := e4
  rw [show Try.prog.cellsOf 3 = 1 from by kernel_rfl] at e4
  have e5 : (cs.drop 5).take (Try.prog.cellsOf 24) = (cA (Value.int .u8)) u5 := e5
  rw [show Try.prog.cellsOf 24 = 32 from by kernel_rfl] at e5
  rw [show Try.prog.cellsOf 26 = 37 from by kernel_rfl] at hl
  have s6 : cs.drop 37 = [] := split_end hl (by decide)
  have s5 := split_more e5 (by decide) s6
  have s4 := split_more e4 (by decide) s5
  have s3 := split_more e3 (by decide) s4
  have s2 := split_more e2 (by decide) s3
  have s1 := split_more e1 (by decide) s2
  have s0 := split_more e0 (by decide) s1
  refine ⟨⟨u0, u1, u2, u3, u4, u5⟩, ?_, ⟨k0, k1, k2, k3, k4, k5⟩⟩
  exact s0.trans (by simp [c_ApiEvent, cI, cB, cS])
theorem own : ownKnob Try.prog.godebug = none := by kernel_rfl
set_option maxRecDepth 100000 in
theorem contract (H : Type) (enc : TypeId × Value → H) (W : World) (base : Nat) (args : Array Value) (ds gs : List (DataW H)) (before : List MemPlace)
    (hval : ∀ (j : Nat) t v, Try.f3.params[j]? = some t → args[j]? = some v → Value.okWide Try.prog W .any base t v)
    (hW : DataW.Whole enc Try.prog Try.f3.params.toList Rows.eventApartSpec.vars false W args.toList ds gs before) (hs : W.ShapedOpen Try.prog) :
    Calls Try.prog 3 args W fun e W' => ∃ v, e = .returned v ∧ Rows.eventApartSpec.post enc Try.prog Try.f3 false true false false W args v W' := by
  have hW' := hW
  obtain ⟨p, q, hA0, hV, rfl, hfz, hnd⟩ := hW
  have hA : DataW.TrodAll enc Try.prog W 0 (fun _ => true) true Try.f3.params.toList args.toList ds p := hA0
  rw [Try.params3] at hA hval
  obtain ⟨v0, vs0, d0, ds0, p0, q0, hargs, rfl, rfl, h0, r0⟩ := trodAll_cons hA
  obtain ⟨v1, vs1, d1, ds1, p1, q1, rfl, rfl, rfl, h1, r1⟩ := trodAll_cons r0
  obtain ⟨rfl, rfl, rfl⟩ := trodAll_nil r1
  obtain rfl : args = #[v0, v1] := by cases args; simp_all
  clear hA0
  obtain ⟨a0, rfl, w0⟩ := arg_row open_ApiEvent (okWide_row (.inl ⟨_, Try.underlying26⟩) (hval 0 26 v0 rfl rfl)) h0
  obtain ⟨a1, rfl, w1⟩ := arg_row open_ApiEvent (okWide_row (.inl ⟨_, Try.underlying26⟩) (hval 1 26 v1 rfl rfl)) h1
  obtain ⟨tab, htl, hR⟩ := tab_open (g := 0) (n := 20) (t := 104) (e := 97) (k := .u64) hs (by kernel_rfl) (by kernel_rfl) (by kernel_rfl) (by kernel_rfl) Try.underlying97 (by kernel_rfl)
  letI TT : TabC := ⟨tab⟩
  have hT : Tabs (heapOf W) := ⟨hR, htl, trivial⟩
  have law : law05_EventApart a0 a1 = some true := law05_EventApart_eq a0 a1 w0.2.2.2.2.2.1 (isB_of w0.2.2.2.2.2.2) w1.2.2.2.2.2.1 (isB_of w1.2.2.2.2.2.2)
  refine (c3 W W (heapOf W) emp (Inv.start W) hT a0 w0.2.2.2.2.2.1 a1 w1.2.2.2.2.2.1 true law).mono fun e W' ⟨he, hI⟩ => ?_
  subst he
  exact ⟨_, rfl, post_law (by kernel_rfl) (by kernel_rfl) rfl Try.underlying4 rfl rfl rfl rfl hW' hI.below⟩
set_option maxRecDepth 100000 in
theorem lifted (os : Os) (started : os.Started) (H : Type) (enc : TypeId × Value → H) :
    ReturnsInHanded {} Try.checked os 3 .any (Rows.eventApartSpec.pre6 enc Try.prog Try.f3 Rows.eventApartRow.domain false) (Rows.eventApartSpec.post enc Try.prog Try.f3 false true false false) := by
  refine returnsInHanded_of_calls (C := Try.checked) own started (by kernel_rfl)
    (ChangeSpec.witness6 (enc := enc) (C := Try.checked) false ⟨#[], #[.agg (([.int .i64 0, .int .i64 0, .string ⟨#[]⟩, .int .i64 0, .int .i64 0] : List Value) ++ (List.replicate 32 (.int .u8 0 : Value))).toArray, .agg (([.int .i64 0, .int .i64 0, .string ⟨#[]⟩, .int .i64 0, .int .i64 0] : List Value) ++ (List.replicate 32 (.int .u8 0 : Value))).toArray], []⟩ 8 (by kernel_rfl) (by kernel_rfl) (by kernel_rfl) (by kernel_rfl)) ?_
  intro w tape i _ hsh _ hok hpre _
  obtain ⟨_, _, _, fn', hfn', _, _, _, _, hval⟩ := hok
  obtain rfl : fn' = Try.f3 := Option.some.inj (hfn'.symm.trans Try.func3)
  obtain ⟨⟨ds, gs, before, hw, _⟩, _⟩ := hpre
  have hw' := DataW.Whole.of_heap (w' := w.forCall tape i) (by rfl) hw
  refine (contract H enc (w.forCall tape i) w.heap.size i.args ds gs before hval hw' hsh).mono fun e W' h => ?_
  obtain ⟨v, rfl, hp⟩ := h
  exact ChangeSpec.post_blind hp
theorem over : Rows.eventApartRow.holds Try.pinned (OpenSpec.ofChange Rows.eventApartSpec) :=
  OpenClaim.holds_of_wide 3 Try.f3 rfl rfl rfl rfl rfl rfl rfl ⟨rfl, rfl, rfl, rfl, rfl⟩ rfl rfl rfl rfl rfl (by kernel_rfl) Try.func3 (by kernel_rfl)
    (of_decide_eq_true (by kernel_rfl)) (by unfold Func.isWrapper; first | (rw [if_pos (by decide +kernel)]; kernel_rfl) | (rw [if_neg (by decide +kernel)]; exact ⟨rfl, rfl⟩))
    (fun os started H enc _ => lifted os started H enc)
end eventApart
/-- THE STATEMENT -/
theorem eventApart_proved : Rows.EventApartSaid := eventApart.over
#print axioms eventApart_proved
end Go.Proofs.Ytjbofffabkimeaa
