/-
  ShaOf: whatever the input, the law answers true, and each argument reads as it did. No condition.
-/
import Derived.Test.YthdoklobbcedcaaCenRow
import Derived.Test.YthdoklobbcedcaaLShaOf
import Derived.Test.YthdoklobbcedcaaShaH
import Derived.Test.YthdoklobbcedcaaRows
set_option linter.unusedVariables false
set_option linter.unusedSimpArgs false
namespace Go.Proofs.Ythdoklobbcedcaa
namespace shaOf
open Go.Cen Go.ChangeShapes Go.WideShapes Go.ChangeAt Go.RowKit
theorem own : ownKnob Try.prog.godebug = none := by kernel_rfl
set_option maxRecDepth 100000 in
theorem contract (H : Type) (enc : TypeId × Value → H) (W : World) (base : Nat) (args : Array Value) (ds gs : List (DataW H)) (before : List MemPlace)
    (hval : ∀ (j : Nat) t v, Try.f3.params[j]? = some t → args[j]? = some v → Value.okWide Try.prog W .any base t v)
    (hW : DataW.Whole enc Try.prog Try.f3.params.toList Rows.shaOfSpec.vars false W args.toList ds gs before) :
    Calls Try.prog 3 args W fun e W' => ∃ v, e = .returned v ∧ Rows.shaOfSpec.post enc Try.prog Try.f3 false true false false W args v W' := by
  have hW' := hW
  obtain ⟨p, q, hA0, hV, rfl, hfz, hnd⟩ := hW
  have hA : DataW.TrodAll enc Try.prog W 0 (fun _ => true) true Try.f3.params.toList args.toList ds p := hA0
  rw [Try.params3] at hA hval
  obtain ⟨v0, vs0, d0, ds0, p0, q0, hargs, rfl, rfl, h0, r0⟩ := trodAll_cons hA
  obtain ⟨v1, vs1, d1, ds1, p1, q1, rfl, rfl, rfl, h1, r1⟩ := trodAll_cons r0
  obtain ⟨rfl, rfl, rfl⟩ := trodAll_nil r1
  obtain rfl : args = #[v0, v1] := by cases args; simp_all
  clear hA0
  obtain ⟨a0, rfl, w0⟩ := arg_str Try.underlying9 (hval 0 9 v0 rfl rfl) h0
  obtain ⟨a1, rfl, l1, w1⟩ := arg_row (OpenT.arr (ev := (Value.int .u8)) Try.underlying23 (OpenT.int (k := .u8) Try.underlying5) (by kernel_rfl) (by kernel_rfl)) (okWide_row (.inr ⟨_, _, Try.underlying23⟩) (hval 1 23 v1 rfl rfl)) h1
  have law : law02_ShaOf a0 a1 = some true := law_ShaOf a0 a1 l1 (isB_of w1)
  refine (c3 W W (heapOf W) emp (Inv.start W) a0 a1 l1 true law).mono fun e W' ⟨he, hI⟩ => ?_
  subst he
  exact ⟨_, rfl, post_law (by kernel_rfl) (by kernel_rfl) rfl Try.underlying4 rfl rfl rfl rfl hW' hI.below⟩
set_option maxRecDepth 100000 in
theorem lifted (os : Os) (started : os.Started) (H : Type) (enc : TypeId × Value → H) :
    ReturnsInHanded {} Try.checked os 3 .any (Rows.shaOfSpec.pre6 enc Try.prog Try.f3 Rows.shaOfRow.domain false) (Rows.shaOfSpec.post enc Try.prog Try.f3 false true false false) := by
  refine returnsInHanded_of_change (C := Try.checked) own started (by kernel_rfl) Try.func3
    (ChangeSpec.witness6 (enc := enc) (C := Try.checked) false ⟨#[], #[.string ⟨#[]⟩, .agg (List.replicate 32 (.int .u8 0)).toArray], []⟩ 8 (by kernel_rfl) (by kernel_rfl) (by kernel_rfl) (by kernel_rfl)) ?_
  intro W base args ds gs before hval hW _ _
  exact contract H enc W base args ds gs before hval hW
theorem over : Rows.shaOfRow.holds Try.pinned (OpenSpec.ofChange Rows.shaOfSpec) :=
  OpenClaim.holds_of_wide 3 Try.f3 rfl rfl rfl rfl rfl rfl rfl ⟨rfl, rfl, rfl, rfl, rfl⟩ rfl rfl rfl rfl rfl (by kernel_rfl) Try.func3 (by kernel_rfl)
    (of_decide_eq_true (by kernel_rfl)) (by unfold Func.isWrapper; first | (rw [if_pos (by decide +kernel)]; kernel_rfl) | (rw [if_neg (by decide +kernel)]; exact ⟨rfl, rfl⟩))
    (fun os started H enc _ => lifted os started H enc)
end shaOf
/-- THE STATEMENT -/
theorem shaOf_proved : Rows.ShaOfSaid := shaOf.over
#print axioms shaOf_proved
end Go.Proofs.Ythdoklobbcedcaa
