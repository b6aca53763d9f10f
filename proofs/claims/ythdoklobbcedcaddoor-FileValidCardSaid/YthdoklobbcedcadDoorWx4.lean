/- That the machine computes these: walks, printed by a program of ours. -/
import Derived.Test.YthdoklobbcedcadDoorPx
import Derived.Test.YthdoklobbcedcadDoorWx3
set_option linter.unusedVariables false
set_option linter.unusedSimpArgs false
namespace Go.Cen
set_option maxRecDepth 100000 in
set_option maxHeartbeats 4000000 in
/-- cenotaph/rule.Kept -/
theorem c25 (w0 w : World) (Z : Hp) (A : HP) (hI : Inv w0 Z w A) (hT : Tabs Z) (a0_ID : Int) (a0_Name : ByteArray) (a0_Data : ByteArray) (a0_Sealed : Bool) (a0_Until : Int) (A_a0_Holds : Option Addr) (c_a0_Holds : Nat) (a0_Holds : (List ByteArray)) (hr_a0_Holds : RdS Z cS 1 A_a0_Holds c_a0_Holds a0_Holds) (a1 : Int) (r : Bool) (h0 : rule_Kept a0_ID a0_Name a0_Data a0_Sealed a0_Until a0_Holds a1 = some r) :
    Calls prog 25 #[.agg ((([.int .i64 a0_ID, .string a0_Name, .string a0_Data, .bool a0_Sealed, .int .i64 a0_Until, .slice A_a0_Holds a0_Holds.length c_a0_Holds] : List Value))).toArray, .int .i64 a1] w (fun e w' => e = .returned (.bool r) ∧ Inv w0 Z w' A) := by
  have e4 := calls_intro (R := (fun e w' => e = .returned (.bool r) ∧ Inv w0 Z w' A)) (w := w) (args := [.agg ((([.int .i64 a0_ID, .string a0_Name, .string a0_Data, .bool a0_Sealed, .int .i64 a0_Until, .slice A_a0_Holds a0_Holds.length c_a0_Holds] : List Value))).toArray, .int .i64 a1]) (fn := Go.Proofs.Tryd.f25) 13 Go.Proofs.Tryd.func25 (by rfl) Go.Proofs.Tryd.ntmps25 (by kernel_rfl)
  refine e4 ?_
  clear e4
  unfold rule_Kept at h0
  refine CodT.seq ?_
  refine CodT.regionL [0, 1] (by kernel_rfl) ?_
  refine OpsT.cons (Does.boxL (d := 2) (T := 24) (v := .agg ((([.int .i64 a0_ID, .string a0_Name, .string a0_Data, .bool a0_Sealed, .int .i64 a0_Until, .slice A_a0_Holds a0_Holds.length c_a0_Holds] : List Value))).toArray) ((([.int .i64 a0_ID, .string a0_Name, .string a0_Data, .bool a0_Sealed, .int .i64 a0_Until, .slice A_a0_Holds a0_Holds.length c_a0_Holds] : List Value))) (by kernel_rfl) hI (by kernel_rfl) ?_)
  intro b1 w hI
  refine OpsT.pures (r := []) [1] [1, 2] (S' := [(1, .int .i64 a1), (2, .pointer (some ⟨b1, 0, none⟩))]) (by kernel_rfl) ?_
  refine OpsT.done ?_
  refine Qn.then ?_
  obtain ⟨r1, h1, h0⟩ := bindS h0
  refine CodT.meet (fun a w => ∃ (x2 : Bool), x2 = r1 ∧ Fr 13 [(4, .bool x2)] a ∧ Inv w0 Z w A) ?_ ?_
  ·
    refine CodT.regionL [0, 1, 2, 3, 4, 5, 6, 7, 8] (by kernel_rfl) ?_
    refine OpsT.pures (r := [1, 2, 3, 4, 5, 6, 7, 8]) [0] [1, 2, 5] (S' := [(1, .int .i64 a1), (2, .pointer (some ⟨b1, 0, none⟩)), (5, .pointer (some ⟨b1, 3, none⟩))]) (by kernel_rfl) ?_
    refine OpsT.cons (Does.yi (Yl.load (d := 6) (T := 4) (v := .bool a0_Sealed) (by kernel_rfl) (ldB ty4 (l := (([.int .i64 a0_ID, .string a0_Name, .string a0_Data, .bool a0_Sealed, .int .i64 a0_Until, .slice A_a0_Holds a0_Holds.length c_a0_Holds] : List Value))) (o := 3) (v := .bool a0_Sealed) (ent_refl _) (by kernel_rfl))) hI ?_)
    refine OpsT.pures (r := [3, 4, 5, 6, 7, 8]) [2] [1, 2, 7] (S' := [(1, .int .i64 a1), (2, .pointer (some ⟨b1, 0, none⟩)), (7, .bool a0_Sealed)]) (by kernel_rfl) ?_
    by_cases hb3 : a0_Sealed = true
    · rw [if_pos hb3] at h1
      refine OpsT.keep [1, 2, 7] (S' := [(1, .int .i64 a1), (2, .pointer (some ⟨b1, 0, none⟩)), (7, .bool true)]) (by (try simp only [hb3]); kernel_rfl) ?_
      refine OpsT.cons (Does.yi (Yl.load (d := 8) (T := 24) (v := .agg ((([.int .i64 a0_ID, .string a0_Name, .string a0_Data, .bool a0_Sealed, .int .i64 a0_Until, .slice A_a0_Holds a0_Holds.length c_a0_Holds] : List Value))).toArray) (by kernel_rfl) (ldBN ty24 (l := (([.int .i64 a0_ID, .string a0_Name, .string a0_Data, .bool a0_Sealed, .int .i64 a0_Until, .slice A_a0_Holds a0_Holds.length c_a0_Holds] : List Value))) (o := 0) (cs := (([.int .i64 a0_ID, .string a0_Name, .string a0_Data, .bool a0_Sealed, .int .i64 a0_Until, .slice A_a0_Holds a0_Holds.length c_a0_Holds] : List Value))) (ent_refl _) (by kernel_rfl) (whole _ _ (by kernel_rfl)))) hI ?_)
      refine OpsT.pures (r := [5, 6, 7, 8]) [4] [7, 8, 9] (S' := [(7, .bool true), (8, .agg ((([.int .i64 a0_ID, .string a0_Name, .string a0_Data, .bool a0_Sealed, .int .i64 a0_Until, .slice A_a0_Holds a0_Holds.length c_a0_Holds] : List Value))).toArray), (9, .int .i64 a1)]) (by kernel_rfl) ?_
      obtain ⟨y5, hc4, h1⟩ := bindS h1
      try dsimp only at h1
      refine OpsT.cons (Does.call (d := some 10) (n := 38) (vs := [.agg ((([.int .i64 a0_ID, .string a0_Name, .string a0_Data, .bool a0_Sealed, .int .i64 a0_Until, .slice A_a0_Holds a0_Holds.length c_a0_Holds] : List Value))).toArray, .int .i64 a1]) (by kernel_rfl) en38 (c38 w0 w _ _ hI hT a0_ID a0_Name a0_Data a0_Sealed a0_Until A_a0_Holds c_a0_Holds a0_Holds hr_a0_Holds a1 _ hc4) ?_)
      rintro e w ⟨rfl, hI⟩
      refine ⟨_, rfl, ?_⟩
      refine OpsT.pures (r := []) [6, 7, 8] [4] (S' := [(4, .bool (y5 != 0))]) (by kernel_rfl) ?_
      refine OpsT.done ?_
      have hI := hI.drop
      have e := someS h1
      subst e
      exact Qn.thenJ fun a ha => ⟨y5 != 0, rfl, ha.keep [4] (by kernel_rfl), hI⟩
    · rw [if_neg hb3] at h1
      have hb3 : a0_Sealed = false := by simpa using hb3
      refine OpsT.keep [1, 2, 7] (S' := [(1, .int .i64 a1), (2, .pointer (some ⟨b1, 0, none⟩)), (7, .bool false)]) (by (try simp only [hb3]); kernel_rfl) ?_
      refine OpsT.pures (r := []) [3, 4, 5, 6, 7, 8] [4] (S' := [(4, .bool false)]) (by kernel_rfl) ?_
      refine OpsT.done ?_
      have hI := hI.drop
      have e := someS h1
      subst e
      exact Qn.thenJ fun a ha => ⟨false, rfl, ha.keep [4] (by kernel_rfl), hI⟩
  ·
    rintro a w ⟨x2, rfl, ha, hI⟩
    try dsimp only at h0
    refine CodT.of ?_ ha
    refine CodT.ret ?_
    have e := someS h0
    subst e
    refine Qn.keep [4] (S' := [(4, .bool x2)]) (by kernel_rfl) ?_
    exact post_ret (v := .bool x2) (fun a ha => RunRes.run (vs := [.bool x2]) (.tmp (t := 4) (by kernel_rfl) .nil) ha (by kernel_rfl)) ⟨rfl, hI⟩
end Go.Cen
