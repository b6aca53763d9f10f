/- The walk of the law RuleLabels, printed by a program of ours. -/
import Derived.Test.YthdoklobbcedcacDoorPx
import Derived.Test.YthdoklobbcedcacDoorWx1
set_option linter.unusedVariables false
set_option linter.unusedSimpArgs false
namespace Go.Cen
set_option maxRecDepth 100000 in
set_option maxHeartbeats 4000000 in
/-- cenotaph/cenotaphlaw07.RuleLabels -/
theorem c7 (w0 w : World) (Z : Hp) (A : HP) (hI : Inv w0 Z w A) (hT : Tabs Z) (a0_ID : Int) (a0_Name : ByteArray) (a0_Data : ByteArray) (a0_Sealed : Bool) (a0_Until : Int) (A_a0_Holds : Option Addr) (c_a0_Holds : Nat) (a0_Holds : (List ByteArray)) (hr_a0_Holds : RdS Z cS 1 A_a0_Holds c_a0_Holds a0_Holds) (a1 : ByteArray) (a2 : ByteArray) (r : Bool) (h0 : law07_RuleLabels a0_ID a0_Name a0_Data a0_Sealed a0_Until a0_Holds a1 a2 = some r) :
    Calls prog 7 #[.agg ((([.int .i64 a0_ID, .string a0_Name, .string a0_Data, .bool a0_Sealed, .int .i64 a0_Until, .slice A_a0_Holds a0_Holds.length c_a0_Holds] : List Value))).toArray, .string a1, .string a2] w (fun e w' => e = .returned (.bool r) ∧ Inv w0 Z w' A) := by
  have e4 := calls_intro (R := (fun e w' => e = .returned (.bool r) ∧ Inv w0 Z w' A)) (w := w) (args := [.agg ((([.int .i64 a0_ID, .string a0_Name, .string a0_Data, .bool a0_Sealed, .int .i64 a0_Until, .slice A_a0_Holds a0_Holds.length c_a0_Holds] : List Value))).toArray, .string a1, .string a2]) (fn := Go.Proofs.Tryd.f7) 122 Go.Proofs.Tryd.func7 (by rfl) Go.Proofs.Tryd.ntmps7 (by kernel_rfl)
  refine e4 ?_
  clear e4
  unfold law07_RuleLabels at h0
  refine CodT.seq ?_
  refine CodT.regionL [0, 1] (by kernel_rfl) ?_
  refine OpsT.cons (Does.boxL (d := 3) (T := 27) (v := .agg ((([.int .i64 a0_ID, .string a0_Name, .string a0_Data, .bool a0_Sealed, .int .i64 a0_Until, .slice A_a0_Holds a0_Holds.length c_a0_Holds] : List Value))).toArray) ((([.int .i64 a0_ID, .string a0_Name, .string a0_Data, .bool a0_Sealed, .int .i64 a0_Until, .slice A_a0_Holds a0_Holds.length c_a0_Holds] : List Value))) (by kernel_rfl) hI (by kernel_rfl) ?_)
  intro b1 w hI
  refine OpsT.pures (r := []) [1] [1, 2, 3] (S' := [(1, .string a1), (2, .string a2), (3, .pointer (some ⟨b1, 0, none⟩))]) (by kernel_rfl) ?_
  refine OpsT.done ?_
  refine Qn.then ?_
  refine CodT.seq ?_
  refine CodT.regionL [0, 1] (by kernel_rfl) ?_
  obtain ⟨y3, hc2, h0⟩ := bindS h0
  try dsimp only at h0
  refine OpsT.cons (Does.call (d := some 17) (n := 10) (vs := []) (by kernel_rfl) en10 (c10 w0 w _ _ hI hT _ hc2) ?_)
  rintro e w ⟨rfl, hI⟩
  refine ⟨_, rfl, ?_⟩
  refine OpsT.pures (r := []) [1] [1, 2, 3, 7] (S' := [(1, .string a1), (2, .string a2), (3, .pointer (some ⟨b1, 0, none⟩)), (7, .bool y3)]) (by kernel_rfl) ?_
  refine OpsT.done ?_
  refine Qn.then ?_
  refine CodT.seq ?_
  refine CodT.seq ?_
  refine CodT.regionL [0, 1] (by kernel_rfl) ?_
  refine OpsT.pures (r := []) [0, 1] [1, 2, 3, 7, 19] (S' := [(1, .string a1), (2, .string a2), (3, .pointer (some ⟨b1, 0, none⟩)), (7, .bool y3), (19, .bool (!y3))]) (by kernel_rfl) ?_
  refine OpsT.done ?_
  refine Qn.then ?_
  by_cases hb4 : (!y3) = true
  · rw [if_pos hb4] at h0
    refine CodT.yes' (b := !y3) (by kernel_rfl) hb4 ?_
    refine CodT.seq ?_
    refine CodT.regionL [0] (by kernel_rfl) ?_
    refine OpsT.pures (r := []) [0] [6] (S' := [(6, .bool false)]) (by kernel_rfl) ?_
    refine OpsT.done ?_
    refine Qn.then ?_
    refine CodT.ret ?_
    refine Qn.ret_then ?_
    have hI := hI.drop
    have e := someS h0
    subst e
    refine Qn.keep [6] (S' := [(6, .bool false)]) (by kernel_rfl) ?_
    exact post_ret (v := .bool false) (fun a ha => RunRes.run (vs := [.bool false]) (.tmp (t := 6) (by kernel_rfl) .nil) ha (by kernel_rfl)) ⟨rfl, hI⟩
  · rw [if_neg hb4] at h0
    refine CodT.no' (b := !y3) (by kernel_rfl) (by simpa using hb4) ?_
    refine CodT.skip ?_
    refine Qn.then ?_
    refine CodT.seq ?_
    refine CodT.regionL [0, 1, 2] (by kernel_rfl) ?_
    refine OpsT.cons (Does.yi (Yl.load (d := 20) (T := 27) (v := .agg ((([.int .i64 a0_ID, .string a0_Name, .string a0_Data, .bool a0_Sealed, .int .i64 a0_Until, .slice A_a0_Holds a0_Holds.length c_a0_Holds] : List Value))).toArray) (by kernel_rfl) (ldBN ty27 (l := (([.int .i64 a0_ID, .string a0_Name, .string a0_Data, .bool a0_Sealed, .int .i64 a0_Until, .slice A_a0_Holds a0_Holds.length c_a0_Holds] : List Value))) (o := 0) (cs := (([.int .i64 a0_ID, .string a0_Name, .string a0_Data, .bool a0_Sealed, .int .i64 a0_Until, .slice A_a0_Holds a0_Holds.length c_a0_Holds] : List Value))) (ent_refl _) (by kernel_rfl) (whole _ _ (by kernel_rfl)))) hI ?_)
    obtain ⟨y6, hc5, h0⟩ := bindS h0
    try dsimp only at h0
    refine OpsT.cons (Does.call (d := some 21) (n := 11) (vs := [.agg ((([.int .i64 a0_ID, .string a0_Name, .string a0_Data, .bool a0_Sealed, .int .i64 a0_Until, .slice A_a0_Holds a0_Holds.length c_a0_Holds] : List Value))).toArray]) (by kernel_rfl) en11 (c11 w0 w _ _ hI hT a0_ID a0_Name a0_Data a0_Sealed a0_Until A_a0_Holds c_a0_Holds a0_Holds hr_a0_Holds _ hc5) ?_)
    rintro e w ⟨rfl, hI⟩
    refine ⟨_, rfl, ?_⟩
    refine OpsT.pures (r := []) [2] [1, 2, 3, 7, 8] (S' := [(1, .string a1), (2, .string a2), (3, .pointer (some ⟨b1, 0, none⟩)), (7, .bool y3), (8, .bool y6)]) (by kernel_rfl) ?_
    refine OpsT.done ?_
    refine Qn.then ?_
    refine CodT.seq ?_
    obtain ⟨r1, h1, h0⟩ := bindS h0
    refine CodT.meet (fun a w => ∃ (x7 : Bool), x7 = r1 ∧ Fr 122 [(1, .string a1), (2, .string a2), (3, .pointer (some ⟨b1, 0, none⟩)), (7, .bool y3), (38, .bool x7)] a ∧ Inv w0 Z w (star (pt b1 (.cells ((([.int .i64 a0_ID, .string a0_Name, .string a0_Data, .bool a0_Sealed, .int .i64 a0_Until, .slice A_a0_Holds a0_Holds.length c_a0_Holds] : List Value))).toArray 27 (0, 0))) A)) ?_ ?_
    ·
      refine CodT.regionL [0, 1, 2, 3, 4, 5, 6, 7, 8, 9, 10, 11, 12, 13, 14, 15, 16] (by kernel_rfl) ?_
      refine OpsT.pures (r := [3, 4, 5, 6, 7, 8, 9, 10, 11, 12, 13, 14, 15, 16]) [0, 1, 2] [1, 2, 3, 7, 24] (S' := [(1, .string a1), (2, .string a2), (3, .pointer (some ⟨b1, 0, none⟩)), (7, .bool y3), (24, .bool (!y6))]) (by kernel_rfl) ?_
      by_cases hb8 : (!y6) = true
      · rw [if_pos hb8] at h1
        refine OpsT.keep [1, 2, 3, 7, 24] (S' := [(1, .string a1), (2, .string a2), (3, .pointer (some ⟨b1, 0, none⟩)), (7, .bool y3), (24, .bool true)]) (by (try simp only [hb8]); kernel_rfl) ?_
        refine OpsT.pures (r := []) [3, 4, 5, 6, 7, 8, 9, 10, 11, 12, 13, 14, 15, 16] [1, 2, 3, 7, 38] (S' := [(1, .string a1), (2, .string a2), (3, .pointer (some ⟨b1, 0, none⟩)), (7, .bool y3), (38, .bool true)]) (by kernel_rfl) ?_
        refine OpsT.done ?_
        have e := someS h1
        subst e
        exact Qn.thenJ fun a ha => ⟨true, rfl, ha.keep [1, 2, 3, 7, 38] (by kernel_rfl), hI⟩
      · rw [if_neg hb8] at h1
        have hb8 : (!y6) = false := by simpa using hb8
        refine OpsT.keep [1, 2, 3, 7, 24] (S' := [(1, .string a1), (2, .string a2), (3, .pointer (some ⟨b1, 0, none⟩)), (7, .bool y3), (24, .bool false)]) (by (try simp only [hb8]); kernel_rfl) ?_
        refine OpsT.pures (r := [8, 9, 10, 11, 12, 13, 14, 15, 16]) [3, 4, 5, 6, 7] [1, 2, 3, 7, 29] (S' := [(1, .string a1), (2, .string a2), (3, .pointer (some ⟨b1, 0, none⟩)), (7, .bool y3), (29, .bool (decide ((a1.size : Int) > 200)))]) (by kernel_rfl) ?_
        by_cases hb9 : (decide ((a1.size : Int) > 200)) = true
        · rw [if_pos hb9] at h1
          refine OpsT.keep [1, 2, 3, 7, 29] (S' := [(1, .string a1), (2, .string a2), (3, .pointer (some ⟨b1, 0, none⟩)), (7, .bool y3), (29, .bool true)]) (by (try simp only [hb9]); kernel_rfl) ?_
          refine OpsT.pures (r := []) [8, 9, 10, 11, 12, 13, 14, 15, 16] [1, 2, 3, 7, 38] (S' := [(1, .string a1), (2, .string a2), (3, .pointer (some ⟨b1, 0, none⟩)), (7, .bool y3), (38, .bool true)]) (by kernel_rfl) ?_
          refine OpsT.done ?_
          have e := someS h1
          subst e
          exact Qn.thenJ fun a ha => ⟨true, rfl, ha.keep [1, 2, 3, 7, 38] (by kernel_rfl), hI⟩
        · rw [if_neg hb9] at h1
          have hb9 : (decide ((a1.size : Int) > 200)) = false := by simpa using hb9
          refine OpsT.keep [1, 2, 3, 7, 29] (S' := [(1, .string a1), (2, .string a2), (3, .pointer (some ⟨b1, 0, none⟩)), (7, .bool y3), (29, .bool false)]) (by (try simp only [hb9]); kernel_rfl) ?_
          refine OpsT.pures (r := [13, 14, 15, 16]) [8, 9, 10, 11, 12] [1, 2, 3, 7, 34] (S' := [(1, .string a1), (2, .string a2), (3, .pointer (some ⟨b1, 0, none⟩)), (7, .bool y3), (34, .bool (decide ((a2.size : Int) > 200)))]) (by kernel_rfl) ?_
          by_cases hb10 : (decide ((a2.size : Int) > 200)) = true
          · rw [if_pos hb10] at h1
            refine OpsT.keep [1, 2, 3, 7, 34] (S' := [(1, .string a1), (2, .string a2), (3, .pointer (some ⟨b1, 0, none⟩)), (7, .bool y3), (34, .bool true)]) (by (try simp only [hb10]); kernel_rfl) ?_
            refine OpsT.pures (r := []) [13, 14, 15, 16] [1, 2, 3, 7, 38] (S' := [(1, .string a1), (2, .string a2), (3, .pointer (some ⟨b1, 0, none⟩)), (7, .bool y3), (38, .bool true)]) (by kernel_rfl) ?_
            refine OpsT.done ?_
            have e := someS h1
            subst e
            exact Qn.thenJ fun a ha => ⟨true, rfl, ha.keep [1, 2, 3, 7, 38] (by kernel_rfl), hI⟩
          · rw [if_neg hb10] at h1
            have hb10 : (decide ((a2.size : Int) > 200)) = false := by simpa using hb10
            refine OpsT.keep [1, 2, 3, 7, 34] (S' := [(1, .string a1), (2, .string a2), (3, .pointer (some ⟨b1, 0, none⟩)), (7, .bool y3), (34, .bool false)]) (by (try simp only [hb10]); kernel_rfl) ?_
            refine OpsT.pures (r := []) [13, 14, 15, 16] [1, 2, 3, 7, 38] (S' := [(1, .string a1), (2, .string a2), (3, .pointer (some ⟨b1, 0, none⟩)), (7, .bool y3), (38, .bool (seq a1 a2))]) (by kernel_rfl) ?_
            refine OpsT.done ?_
            have e := someS h1
            subst e
            exact Qn.thenJ fun a ha => ⟨seq a1 a2, rfl, ha.keep [1, 2, 3, 7, 38] (by kernel_rfl), hI⟩
    ·
      rintro a w ⟨x7, rfl, ha, hI⟩
      try dsimp only at h0
      refine CodT.of ?_ ha
      by_cases hb11 : x7 = true
      · rw [if_pos hb11] at h0
        refine CodT.yes' (b := x7) (by kernel_rfl) hb11 ?_
        refine CodT.seq ?_
        refine CodT.regionL [0, 1] (by kernel_rfl) ?_
        refine OpsT.pures (r := []) [0, 1] [6] (S' := [(6, .bool y3)]) (by kernel_rfl) ?_
        refine OpsT.done ?_
        refine Qn.then ?_
        refine CodT.ret ?_
        refine Qn.ret_then ?_
        have hI := hI.drop
        have e := someS h0
        subst e
        refine Qn.keep [6] (S' := [(6, .bool y3)]) (by kernel_rfl) ?_
        exact post_ret (v := .bool y3) (fun a ha => RunRes.run (vs := [.bool y3]) (.tmp (t := 6) (by kernel_rfl) .nil) ha (by kernel_rfl)) ⟨rfl, hI⟩
      · rw [if_neg hb11] at h0
        refine CodT.no' (b := x7) (by kernel_rfl) (by simpa using hb11) ?_
        refine CodT.skip ?_
        refine Qn.then ?_
        refine CodT.seq ?_
        refine CodT.seq ?_
        refine CodT.regionL [0] (by kernel_rfl) ?_
        refine OpsT.pures (r := []) [0] [1, 2, 3, 7, 9] (S' := [(1, .string a1), (2, .string a2), (3, .pointer (some ⟨b1, 0, none⟩)), (7, .bool y3), (9, .int .i64 1)]) (by kernel_rfl) ?_
        refine OpsT.done ?_
        refine Qn.then ?_
        obtain ⟨r1, h1, h0⟩ := bindS h0
        refine CodT.meet1 (fun a w => .inr () = r1 ∧ Fr 122 [(1, .string a1), (2, .string a2), (3, .pointer (some ⟨b1, 0, none⟩)), (7, .bool y3)] a ∧ Inv w0 Z w (star (pt b1 (.cells ((([.int .i64 a0_ID, .string a0_Name, .string a0_Data, .bool a0_Sealed, .int .i64 a0_Until, .slice A_a0_Holds a0_Holds.length c_a0_Holds] : List Value))).toArray 27 (0, 0))) A)) ?_ ?_
        ·
          refine CodT.block ?_
          refine (fun a ha => wp_loopN (fun k a w => ∃ (x12 : Int), law07_RuleLabels.l0 a0_Holds y3 k x12 = some r1 ∧ Fr 122 [(1, .string a1), (2, .string a2), (3, .pointer (some ⟨b1, 0, none⟩)), (7, .bool y3), (9, .int .i64 x12)] a ∧ Inv w0 Z w (star (pt b1 (.cells ((([.int .i64 a0_ID, .string a0_Name, .string a0_Data, .bool a0_Sealed, .int .i64 a0_Until, .slice A_a0_Holds a0_Holds.length c_a0_Holds] : List Value))).toArray 27 (0, 0))) A)) ?_ FU a w ⟨1, h1, ha.keep [1, 2, 3, 7, 9] (by kernel_rfl), hI⟩)
          clear h1 hI
          rintro k a w ⟨x12, h1, ha, hI⟩
          rcases k with _ | k
          · cases h1
          simp only [law07_RuleLabels.l0] at h1
          refine CodT.of ?_ ha
          refine CodT.seq ?_
          refine CodT.seq ?_
          refine CodT.regionL [0, 1, 2, 3, 4] (by kernel_rfl) ?_
          refine OpsT.pures (r := [2, 3, 4]) [0, 1] [1, 2, 3, 7, 9, 40, 41] (S' := [(1, .string a1), (2, .string a2), (3, .pointer (some ⟨b1, 0, none⟩)), (7, .bool y3), (9, .int .i64 x12), (40, .int .i64 x12), (41, .pointer (some ⟨b1, 5, none⟩))]) (by kernel_rfl) ?_
          refine OpsT.cons (Does.yi (Yl.load (d := 42) (T := 25) (v := .slice A_a0_Holds a0_Holds.length c_a0_Holds) (by kernel_rfl) (ldB ty25 (l := (([.int .i64 a0_ID, .string a0_Name, .string a0_Data, .bool a0_Sealed, .int .i64 a0_Until, .slice A_a0_Holds a0_Holds.length c_a0_Holds] : List Value))) (o := 5) (v := .slice A_a0_Holds a0_Holds.length c_a0_Holds) (ent_refl _) (by kernel_rfl))) hI ?_)
          refine OpsT.pures (r := []) [3, 4] [1, 2, 3, 7, 9, 44] (S' := [(1, .string a1), (2, .string a2), (3, .pointer (some ⟨b1, 0, none⟩)), (7, .bool y3), (9, .int .i64 x12), (44, .bool (decide (x12 < (a0_Holds.length : Int))))]) (by kernel_rfl) ?_
          refine OpsT.done ?_
          refine Qn.then ?_
          by_cases hb13 : (decide (x12 < (a0_Holds.length : Int))) = true
          · rw [if_pos hb13] at h1
            refine CodT.yes' (b := decide (x12 < (a0_Holds.length : Int))) (by kernel_rfl) hb13 ?_
            refine CodT.skip ?_
            refine Qn.then ?_
            refine CodT.seq ?_
            refine CodT.block ?_
            refine CodT.seq ?_
            refine CodT.drawI (n := 13) [] (by kernel_rfl) (by kernel_rfl) hI ?_
            intro w hI
            refine GmT.p' 0 47 (.pointer (some ⟨b1, 5, none⟩)) (by kernel_rfl) (by kernel_rfl) ?_
            refine GmT.p' 2 49 (.int .i64 x12) (by kernel_rfl) (by kernel_rfl) ?_
            refine GmT.p' 3 50 (.int .i64 (wi64 (x12 - 1))) (by kernel_rfl) (by kernel_rfl) ?_
            refine GmT.p' 6 53 (.pointer (some ⟨b1, 5, none⟩)) (by kernel_rfl) (by kernel_rfl) ?_
            refine GmT.p' 8 55 (.int .i64 x12) (by kernel_rfl) (by kernel_rfl) ?_
            refine GmT.r (i := 1) 2 (by kernel_rfl) (by kernel_rfl) (Yl.load (d := 48) (T := 25) (v := .slice A_a0_Holds a0_Holds.length c_a0_Holds) (by kernel_rfl) (ldB ty25 (l := (([.int .i64 a0_ID, .string a0_Name, .string a0_Data, .bool a0_Sealed, .int .i64 a0_Until, .slice A_a0_Holds a0_Holds.length c_a0_Holds] : List Value))) (o := 5) (v := .slice A_a0_Holds a0_Holds.length c_a0_Holds) (ent_refl _) (by kernel_rfl))) hI ?_
            obtain ⟨hg14, h1⟩ := guardS h1
            obtain ⟨g15, o19, hA16, hr17, hl18⟩ := RdS.get hr_a0_Holds hg14.1 hg14.2
            refine GmT.r (i := 4) 2 (by kernel_rfl) (by kernel_rfl) (Yl.indexSlice (d := 51) (T := 25) (cc := c_a0_Holds) (k := .i64) (j := wi64 (x12 - 1)) (g := g15) (o := o19) (by kernel_rfl) Go.Proofs.Tryd.underlying25 ty9 hA16 hg14.1 hg14.2) hI ?_
            refine GmT.r (i := 5) 2 (by kernel_rfl) (by kernel_rfl) (Yl.load (d := 52) (T := 9) (v := .string (gt a0_Holds (wi64 (x12 - 1)))) (by kernel_rfl) (ldR ty9 (v := .string (gt a0_Holds (wi64 (x12 - 1)))) 0 (fun w hC => hr17 w0 w _ hC) (by kernel_rfl))) hI ?_
            refine GmT.r (i := 7) 2 (by kernel_rfl) (by kernel_rfl) (Yl.load (d := 54) (T := 25) (v := .slice A_a0_Holds a0_Holds.length c_a0_Holds) (by kernel_rfl) (ldB ty25 (l := (([.int .i64 a0_ID, .string a0_Name, .string a0_Data, .bool a0_Sealed, .int .i64 a0_Until, .slice A_a0_Holds a0_Holds.length c_a0_Holds] : List Value))) (o := 5) (v := .slice A_a0_Holds a0_Holds.length c_a0_Holds) (ent_refl _) (by kernel_rfl))) hI ?_
            obtain ⟨hg20, h1⟩ := guardS h1
            obtain ⟨g21, o25, hA22, hr23, hl24⟩ := RdS.get hr_a0_Holds hg20.1 hg20.2
            refine GmT.r (i := 9) 2 (by kernel_rfl) (by kernel_rfl) (Yl.indexSlice (d := 56) (T := 25) (cc := c_a0_Holds) (k := .i64) (j := x12) (g := g21) (o := o25) (by kernel_rfl) Go.Proofs.Tryd.underlying25 ty9 hA22 hg20.1 hg20.2) hI ?_
            refine GmT.r (i := 10) 2 (by kernel_rfl) (by kernel_rfl) (Yl.load (d := 57) (T := 9) (v := .string (gt a0_Holds x12)) (by kernel_rfl) (ldR ty9 (v := .string (gt a0_Holds x12)) 0 (fun w hC => hr23 w0 w _ hC) (by kernel_rfl))) hI ?_
            obtain ⟨y27, hc26, h1⟩ := bindS h1
            try dsimp only at h1
            refine GmT.o (i := 11) (by kernel_rfl) (Does.call (d := some 58) (n := 25) (vs := [.string (gt a0_Holds (wi64 (x12 - 1))), .string (gt a0_Holds x12)]) (by kernel_rfl) en25 (c25 w0 w _ _ hI hT (gt a0_Holds (wi64 (x12 - 1))) (gt a0_Holds x12) _ hc26) ?_)
            rintro e w ⟨rfl, hI⟩
            refine ⟨_, rfl, ?_⟩
            refine ⟨fun _ _ => hI, ?_⟩
            refine GmT.p' 12 10 (.bool y27) (by kernel_rfl) (by kernel_rfl) ?_
            refine GmT.done (by kernel_rfl) ?_
            refine Qn.then ?_
            refine CodT.seq ?_
            refine CodT.regionL [0, 1] (by kernel_rfl) ?_
            refine OpsT.pures (r := []) [0, 1] [1, 2, 3, 7, 9, 60] (S' := [(1, .string a1), (2, .string a2), (3, .pointer (some ⟨b1, 0, none⟩)), (7, .bool y3), (9, .int .i64 x12), (60, .bool (!y27))]) (by kernel_rfl) ?_
            refine OpsT.done ?_
            refine Qn.then ?_
            by_cases hb28 : (!y27) = true
            · rw [if_pos hb28] at h1
              refine CodT.yes' (b := !y27) (by kernel_rfl) hb28 ?_
              refine CodT.seq ?_
              refine CodT.regionL [0, 1] (by kernel_rfl) ?_
              refine OpsT.pures (r := []) [0, 1] [6] (S' := [(6, .bool y3)]) (by kernel_rfl) ?_
              refine OpsT.done ?_
              refine Qn.then ?_
              refine CodT.ret ?_
              refine Qn.block_ret ?_
              refine Qn.ret_then ?_
              refine Qn.ret_then ?_
              refine Qn.block_ret ?_
              refine Qn.ret_then ?_
              refine Qn.ret_then ?_
              have hI := hI.drop
              have e := someS h1
              subst e
              try dsimp only at h0
              have e := someS h0
              subst e
              refine Qn.keep [6] (S' := [(6, .bool y3)]) (by kernel_rfl) ?_
              exact post_ret (v := .bool y3) (fun a ha => RunRes.run (vs := [.bool y3]) (.tmp (t := 6) (by kernel_rfl) .nil) ha (by kernel_rfl)) ⟨rfl, hI⟩
            · rw [if_neg hb28] at h1
              refine CodT.no' (b := !y27) (by kernel_rfl) (by simpa using hb28) ?_
              refine CodT.skip ?_
              refine Qn.block_normal ?_
              refine Qn.then ?_
              refine CodT.regionL [0, 1, 2] (by kernel_rfl) ?_
              refine OpsT.pures (r := []) [0, 1, 2] [1, 2, 3, 7, 9] (S' := [(1, .string a1), (2, .string a2), (3, .pointer (some ⟨b1, 0, none⟩)), (7, .bool y3), (9, .int .i64 (wi64 (x12 + 1)))]) (by kernel_rfl) ?_
              refine OpsT.done ?_
              exact Qn.thenJ fun a ha => ⟨k, Nat.lt_succ_self k, wi64 (x12 + 1), h1, ha.keep [1, 2, 3, 7, 9] (by kernel_rfl), hI⟩
          · rw [if_neg hb13] at h1
            refine CodT.no' (b := decide (x12 < (a0_Holds.length : Int))) (by kernel_rfl) (by simpa using hb13) ?_
            refine CodT.exit ?_
            refine Qn.exit_then ?_
            refine Qn.exit_then ?_
            refine Qn.block ?_
            have e := someS h1
            subst e
            exact Qn.thenJ fun a ha => ⟨rfl, ha.keep [1, 2, 3, 7] (by kernel_rfl), hI⟩
        ·
          rintro a w ⟨rfl, ha, hI⟩
          try dsimp only at h0
          refine Qn.of ?_ ha
          refine Qn.then ?_
          refine CodT.seq ?_
          refine CodT.regionL [0, 1, 2, 3, 4, 5, 6, 7, 8] (by kernel_rfl) ?_
          refine OpsT.cons (Does.yi (Yl.load (d := 63) (T := 27) (v := .agg ((([.int .i64 a0_ID, .string a0_Name, .string a0_Data, .bool a0_Sealed, .int .i64 a0_Until, .slice A_a0_Holds a0_Holds.length c_a0_Holds] : List Value))).toArray) (by kernel_rfl) (ldBN ty27 (l := (([.int .i64 a0_ID, .string a0_Name, .string a0_Data, .bool a0_Sealed, .int .i64 a0_Until, .slice A_a0_Holds a0_Holds.length c_a0_Holds] : List Value))) (o := 0) (cs := (([.int .i64 a0_ID, .string a0_Name, .string a0_Data, .bool a0_Sealed, .int .i64 a0_Until, .slice A_a0_Holds a0_Holds.length c_a0_Holds] : List Value))) (ent_refl _) (by kernel_rfl) (whole _ _ (by kernel_rfl)))) hI ?_)
          refine OpsT.pures (r := [2, 3, 4, 5, 6, 7, 8]) [1] [1, 2, 3, 7, 63, 64] (S' := [(1, .string a1), (2, .string a2), (3, .pointer (some ⟨b1, 0, none⟩)), (7, .bool y3), (63, .agg ((([.int .i64 a0_ID, .string a0_Name, .string a0_Data, .bool a0_Sealed, .int .i64 a0_Until, .slice A_a0_Holds a0_Holds.length c_a0_Holds] : List Value))).toArray), (64, .string a1)]) (by kernel_rfl) ?_
          obtain ⟨⟨y30, y31, y32, y33, y34, y35, y39⟩, hc29, h0⟩ := bindS h0
          try dsimp only at h0
          refine OpsT.cons (Does.call (d := some 65) (n := 22) (vs := [.agg ((([.int .i64 a0_ID, .string a0_Name, .string a0_Data, .bool a0_Sealed, .int .i64 a0_Until, .slice A_a0_Holds a0_Holds.length c_a0_Holds] : List Value))).toArray, .string a1]) (by kernel_rfl) en22 (c22 w0 w _ _ hI hT a0_ID a0_Name a0_Data a0_Sealed a0_Until A_a0_Holds c_a0_Holds a0_Holds hr_a0_Holds a1 _ hc29) ?_)
          rintro e w ⟨A36, cp37, Z40, hle41, rfl, hr38, hI⟩
          refine ⟨_, rfl, ?_⟩
          refine OpsT.pures (r := [6, 7, 8]) [3, 4, 5] [1, 2, 3, 7, 66, 67] (S' := [(1, .string a1), (2, .string a2), (3, .pointer (some ⟨b1, 0, none⟩)), (7, .bool y3), (66, .agg ((([.int .i64 y30, .string y31, .string y32, .bool y33, .int .i64 y34, .slice A36 y35.length cp37] : List Value))).toArray), (67, .int .i64 y39)]) (by kernel_rfl) ?_
          refine OpsT.cons (Does.allocL (d := 11) (T := 27) ((([.int .i64 0, .string (⟨#[]⟩ : ByteArray), .string (⟨#[]⟩ : ByteArray), .bool false, .int .i64 0, .slice none 0 0] : List Value))) (by kernel_rfl) ty27 hI (by kernel_rfl) ?_)
          intro b42 w hI
          refine OpsT.cons (Does.storeLit (T := 27) (b := b42) (o := 0) (v := .agg ((([.int .i64 y30, .string y31, .string y32, .bool y33, .int .i64 y34, .slice A36 y35.length cp37] : List Value))).toArray) (l := (([.int .i64 0, .string (⟨#[]⟩ : ByteArray), .string (⟨#[]⟩ : ByteArray), .bool false, .int .i64 0, .slice none 0 0] : List Value))) (vs := (([.int .i64 y30, .string y31, .string y32, .bool y33, .int .i64 y34, .slice A36 y35.length cp37] : List Value))) (L' := (([.int .i64 y30, .string y31, .string y32, .bool y33, .int .i64 y34, .slice A36 y35.length cp37] : List Value))) (by kernel_rfl) ty27 hI (by kernel_rfl) (by kernel_rfl) (by kernel_rfl) (by kernel_rfl) (by kernel_rfl) ?_)
          intro w hI
          refine OpsT.pures (r := []) [8] [1, 2, 3, 7, 11, 12] (S' := [(1, .string a1), (2, .string a2), (3, .pointer (some ⟨b1, 0, none⟩)), (7, .bool y3), (11, .pointer (some ⟨b42, 0, none⟩)), (12, .int .i64 y39)]) (by kernel_rfl) ?_
          refine OpsT.done ?_
          refine Qn.then ?_
          refine CodT.seq ?_
          refine CodT.regionL [0, 1, 2, 3, 4, 5, 6, 7] (by kernel_rfl) ?_
          refine OpsT.cons (Does.yi (Yl.load (d := 69) (T := 27) (v := .agg ((([.int .i64 y30, .string y31, .string y32, .bool y33, .int .i64 y34, .slice A36 y35.length cp37] : List Value))).toArray) (by kernel_rfl) (ldBN ty27 (l := (([.int .i64 y30, .string y31, .string y32, .bool y33, .int .i64 y34, .slice A36 y35.length cp37] : List Value))) (o := 0) (cs := (([.int .i64 y30, .string y31, .string y32, .bool y33, .int .i64 y34, .slice A36 y35.length cp37] : List Value))) (ent_refl _) (by kernel_rfl) (whole _ _ (by kernel_rfl)))) hI ?_)
          refine OpsT.pures (r := [2, 3, 4, 5, 6, 7]) [1] [1, 2, 3, 7, 11, 12, 69, 70] (S' := [(1, .string a1), (2, .string a2), (3, .pointer (some ⟨b1, 0, none⟩)), (7, .bool y3), (11, .pointer (some ⟨b42, 0, none⟩)), (12, .int .i64 y39), (69, .agg ((([.int .i64 y30, .string y31, .string y32, .bool y33, .int .i64 y34, .slice A36 y35.length cp37] : List Value))).toArray), (70, .string a2)]) (by kernel_rfl) ?_
          obtain ⟨⟨y44, y45, y46, y47, y48, y49, y53⟩, hc43, h0⟩ := bindS h0
          try dsimp only at h0
          refine OpsT.cons (Does.call (d := some 71) (n := 22) (vs := [.agg ((([.int .i64 y30, .string y31, .string y32, .bool y33, .int .i64 y34, .slice A36 y35.length cp37] : List Value))).toArray, .string a2]) (by kernel_rfl) en22 (c22 w0 w _ _ hI (hT.mono hle41) y30 y31 y32 y33 y34 A36 cp37 y35 hr38 a2 _ hc43) ?_)
          rintro e w ⟨A50, cp51, Z54, hle55, rfl, hr52, hI⟩
          refine ⟨_, rfl, ?_⟩
          refine OpsT.pures (r := [6, 7]) [3, 4, 5] [1, 2, 3, 7, 11, 12, 72, 73] (S' := [(1, .string a1), (2, .string a2), (3, .pointer (some ⟨b1, 0, none⟩)), (7, .bool y3), (11, .pointer (some ⟨b42, 0, none⟩)), (12, .int .i64 y39), (72, .agg ((([.int .i64 y44, .string y45, .string y46, .bool y47, .int .i64 y48, .slice A50 y49.length cp51] : List Value))).toArray), (73, .int .i64 y53)]) (by kernel_rfl) ?_
          refine OpsT.cons (Does.storeLit (T := 27) (b := b42) (o := 0) (v := .agg ((([.int .i64 y44, .string y45, .string y46, .bool y47, .int .i64 y48, .slice A50 y49.length cp51] : List Value))).toArray) (l := (([.int .i64 y30, .string y31, .string y32, .bool y33, .int .i64 y34, .slice A36 y35.length cp37] : List Value))) (vs := (([.int .i64 y44, .string y45, .string y46, .bool y47, .int .i64 y48, .slice A50 y49.length cp51] : List Value))) (L' := (([.int .i64 y44, .string y45, .string y46, .bool y47, .int .i64 y48, .slice A50 y49.length cp51] : List Value))) (by kernel_rfl) ty27 hI (by kernel_rfl) (by kernel_rfl) (by kernel_rfl) (by kernel_rfl) (by kernel_rfl) ?_)
          intro w hI
          refine OpsT.pures (r := []) [7] [1, 2, 3, 7, 11, 12, 13] (S' := [(1, .string a1), (2, .string a2), (3, .pointer (some ⟨b1, 0, none⟩)), (7, .bool y3), (11, .pointer (some ⟨b42, 0, none⟩)), (12, .int .i64 y39), (13, .int .i64 y53)]) (by kernel_rfl) ?_
          refine OpsT.done ?_
          refine Qn.then ?_
          refine CodT.seq ?_
          refine CodT.regionL [0, 1, 2, 3, 4, 5, 6, 7, 8] (by kernel_rfl) ?_
          refine OpsT.cons (Does.yi (Yl.load (d := 75) (T := 27) (v := .agg ((([.int .i64 a0_ID, .string a0_Name, .string a0_Data, .bool a0_Sealed, .int .i64 a0_Until, .slice A_a0_Holds a0_Holds.length c_a0_Holds] : List Value))).toArray) (by kernel_rfl) (ldBN ty27 (l := (([.int .i64 a0_ID, .string a0_Name, .string a0_Data, .bool a0_Sealed, .int .i64 a0_Until, .slice A_a0_Holds a0_Holds.length c_a0_Holds] : List Value))) (o := 0) (cs := (([.int .i64 a0_ID, .string a0_Name, .string a0_Data, .bool a0_Sealed, .int .i64 a0_Until, .slice A_a0_Holds a0_Holds.length c_a0_Holds] : List Value))) (pick2 _ _ _) (by kernel_rfl) (whole _ _ (by kernel_rfl)))) hI ?_)
          refine OpsT.pures (r := [2, 3, 4, 5, 6, 7, 8]) [1] [1, 7, 11, 12, 13, 75, 76] (S' := [(1, .string a1), (7, .bool y3), (11, .pointer (some ⟨b42, 0, none⟩)), (12, .int .i64 y39), (13, .int .i64 y53), (75, .agg ((([.int .i64 a0_ID, .string a0_Name, .string a0_Data, .bool a0_Sealed, .int .i64 a0_Until, .slice A_a0_Holds a0_Holds.length c_a0_Holds] : List Value))).toArray), (76, .string a2)]) (by kernel_rfl) ?_
          obtain ⟨⟨y57, y58, y59, y60, y61, y62, y66⟩, hc56, h0⟩ := bindS h0
          try dsimp only at h0
          refine OpsT.cons (Does.call (d := some 77) (n := 22) (vs := [.agg ((([.int .i64 a0_ID, .string a0_Name, .string a0_Data, .bool a0_Sealed, .int .i64 a0_Until, .slice A_a0_Holds a0_Holds.length c_a0_Holds] : List Value))).toArray, .string a2]) (by kernel_rfl) en22 (c22 w0 w _ _ hI (hT.mono (Hp.le_trans hle41 hle55)) a0_ID a0_Name a0_Data a0_Sealed a0_Until A_a0_Holds c_a0_Holds a0_Holds (hr_a0_Holds.mono (Hp.le_trans hle41 hle55)) a2 _ hc56) ?_)
          rintro e w ⟨A63, cp64, Z67, hle68, rfl, hr65, hI⟩
          refine ⟨_, rfl, ?_⟩
          refine OpsT.pures (r := [6, 7, 8]) [3, 4, 5] [1, 7, 11, 12, 13, 78, 79] (S' := [(1, .string a1), (7, .bool y3), (11, .pointer (some ⟨b42, 0, none⟩)), (12, .int .i64 y39), (13, .int .i64 y53), (78, .agg ((([.int .i64 y57, .string y58, .string y59, .bool y60, .int .i64 y61, .slice A63 y62.length cp64] : List Value))).toArray), (79, .int .i64 y66)]) (by kernel_rfl) ?_
          refine OpsT.cons (Does.allocL (d := 14) (T := 27) ((([.int .i64 0, .string (⟨#[]⟩ : ByteArray), .string (⟨#[]⟩ : ByteArray), .bool false, .int .i64 0, .slice none 0 0] : List Value))) (by kernel_rfl) ty27 hI (by kernel_rfl) ?_)
          intro b69 w hI
          refine OpsT.cons (Does.storeLit (T := 27) (b := b69) (o := 0) (v := .agg ((([.int .i64 y57, .string y58, .string y59, .bool y60, .int .i64 y61, .slice A63 y62.length cp64] : List Value))).toArray) (l := (([.int .i64 0, .string (⟨#[]⟩ : ByteArray), .string (⟨#[]⟩ : ByteArray), .bool false, .int .i64 0, .slice none 0 0] : List Value))) (vs := (([.int .i64 y57, .string y58, .string y59, .bool y60, .int .i64 y61, .slice A63 y62.length cp64] : List Value))) (L' := (([.int .i64 y57, .string y58, .string y59, .bool y60, .int .i64 y61, .slice A63 y62.length cp64] : List Value))) (by kernel_rfl) ty27 hI (by kernel_rfl) (by kernel_rfl) (by kernel_rfl) (by kernel_rfl) (by kernel_rfl) ?_)
          intro w hI
          refine OpsT.pures (r := []) [8] [1, 7, 11, 12, 13, 14, 15] (S' := [(1, .string a1), (7, .bool y3), (11, .pointer (some ⟨b42, 0, none⟩)), (12, .int .i64 y39), (13, .int .i64 y53), (14, .pointer (some ⟨b69, 0, none⟩)), (15, .int .i64 y66)]) (by kernel_rfl) ?_
          refine OpsT.done ?_
          refine Qn.then ?_
          refine CodT.seq ?_
          refine CodT.regionL [0, 1, 2, 3, 4, 5, 6, 7] (by kernel_rfl) ?_
          refine OpsT.cons (Does.yi (Yl.load (d := 81) (T := 27) (v := .agg ((([.int .i64 y57, .string y58, .string y59, .bool y60, .int .i64 y61, .slice A63 y62.length cp64] : List Value))).toArray) (by kernel_rfl) (ldBN ty27 (l := (([.int .i64 y57, .string y58, .string y59, .bool y60, .int .i64 y61, .slice A63 y62.length cp64] : List Value))) (o := 0) (cs := (([.int .i64 y57, .string y58, .string y59, .bool y60, .int .i64 y61, .slice A63 y62.length cp64] : List Value))) (ent_refl _) (by kernel_rfl) (whole _ _ (by kernel_rfl)))) hI ?_)
          refine OpsT.pures (r := [2, 3, 4, 5, 6, 7]) [1] [7, 11, 12, 13, 14, 15, 81, 82] (S' := [(7, .bool y3), (11, .pointer (some ⟨b42, 0, none⟩)), (12, .int .i64 y39), (13, .int .i64 y53), (14, .pointer (some ⟨b69, 0, none⟩)), (15, .int .i64 y66), (81, .agg ((([.int .i64 y57, .string y58, .string y59, .bool y60, .int .i64 y61, .slice A63 y62.length cp64] : List Value))).toArray), (82, .string a1)]) (by kernel_rfl) ?_
          obtain ⟨⟨y71, y72, y73, y74, y75, y76, y80⟩, hc70, h0⟩ := bindS h0
          try dsimp only at h0
          refine OpsT.cons (Does.call (d := some 83) (n := 22) (vs := [.agg ((([.int .i64 y57, .string y58, .string y59, .bool y60, .int .i64 y61, .slice A63 y62.length cp64] : List Value))).toArray, .string a1]) (by kernel_rfl) en22 (c22 w0 w _ _ hI (hT.mono (Hp.le_trans (Hp.le_trans hle41 hle55) hle68)) y57 y58 y59 y60 y61 A63 cp64 y62 hr65 a1 _ hc70) ?_)
          rintro e w ⟨A77, cp78, Z81, hle82, rfl, hr79, hI⟩
          refine ⟨_, rfl, ?_⟩
          refine OpsT.pures (r := [6, 7]) [3, 4, 5] [7, 11, 12, 13, 14, 15, 84, 85] (S' := [(7, .bool y3), (11, .pointer (some ⟨b42, 0, none⟩)), (12, .int .i64 y39), (13, .int .i64 y53), (14, .pointer (some ⟨b69, 0, none⟩)), (15, .int .i64 y66), (84, .agg ((([.int .i64 y71, .string y72, .string y73, .bool y74, .int .i64 y75, .slice A77 y76.length cp78] : List Value))).toArray), (85, .int .i64 y80)]) (by kernel_rfl) ?_
          refine OpsT.cons (Does.storeLit (T := 27) (b := b69) (o := 0) (v := .agg ((([.int .i64 y71, .string y72, .string y73, .bool y74, .int .i64 y75, .slice A77 y76.length cp78] : List Value))).toArray) (l := (([.int .i64 y57, .string y58, .string y59, .bool y60, .int .i64 y61, .slice A63 y62.length cp64] : List Value))) (vs := (([.int .i64 y71, .string y72, .string y73, .bool y74, .int .i64 y75, .slice A77 y76.length cp78] : List Value))) (L' := (([.int .i64 y71, .string y72, .string y73, .bool y74, .int .i64 y75, .slice A77 y76.length cp78] : List Value))) (by kernel_rfl) ty27 hI (by kernel_rfl) (by kernel_rfl) (by kernel_rfl) (by kernel_rfl) (by kernel_rfl) ?_)
          intro w hI
          refine OpsT.pures (r := []) [7] [7, 11, 12, 13, 14, 15, 16] (S' := [(7, .bool y3), (11, .pointer (some ⟨b42, 0, none⟩)), (12, .int .i64 y39), (13, .int .i64 y53), (14, .pointer (some ⟨b69, 0, none⟩)), (15, .int .i64 y66), (16, .int .i64 y80)]) (by kernel_rfl) ?_
          refine OpsT.done ?_
          refine Qn.then ?_
          refine CodT.seq ?_
          obtain ⟨r1, h1, h0⟩ := bindS h0
          refine CodT.meet (fun a w => ∃ (x83 : Bool), x83 = r1 ∧ Fr 122 [(7, .bool y3), (11, .pointer (some ⟨b42, 0, none⟩)), (12, .int .i64 y39), (13, .int .i64 y53), (14, .pointer (some ⟨b69, 0, none⟩)), (15, .int .i64 y66), (16, .int .i64 y80), (99, .bool x83)] a ∧ Inv w0 Z81 w (star (pt b69 (.cells ((([.int .i64 y71, .string y72, .string y73, .bool y74, .int .i64 y75, .slice A77 y76.length cp78] : List Value))).toArray 27 (0, 0))) (star (pt b42 (.cells ((([.int .i64 y44, .string y45, .string y46, .bool y47, .int .i64 y48, .slice A50 y49.length cp51] : List Value))).toArray 27 (0, 0))) A))) ?_ ?_
          ·
            refine CodT.regionL [0, 1, 2, 3, 4, 5, 6, 7, 8, 9, 10, 11, 12, 13] (by kernel_rfl) ?_
            refine OpsT.pures (r := [3, 4, 5, 6, 7, 8, 9, 10, 11, 12, 13]) [0, 1, 2] [7, 11, 12, 13, 14, 15, 16, 88] (S' := [(7, .bool y3), (11, .pointer (some ⟨b42, 0, none⟩)), (12, .int .i64 y39), (13, .int .i64 y53), (14, .pointer (some ⟨b69, 0, none⟩)), (15, .int .i64 y66), (16, .int .i64 y80), (88, .bool (y39 != 0))]) (by kernel_rfl) ?_
            by_cases hb84 : (y39 != 0) = true
            · rw [if_pos hb84] at h1
              refine OpsT.keep [7, 11, 12, 13, 14, 15, 16, 88] (S' := [(7, .bool y3), (11, .pointer (some ⟨b42, 0, none⟩)), (12, .int .i64 y39), (13, .int .i64 y53), (14, .pointer (some ⟨b69, 0, none⟩)), (15, .int .i64 y66), (16, .int .i64 y80), (88, .bool true)]) (by (try simp only [hb84]); kernel_rfl) ?_
              refine OpsT.pures (r := []) [3, 4, 5, 6, 7, 8, 9, 10, 11, 12, 13] [7, 11, 12, 13, 14, 15, 16, 99] (S' := [(7, .bool y3), (11, .pointer (some ⟨b42, 0, none⟩)), (12, .int .i64 y39), (13, .int .i64 y53), (14, .pointer (some ⟨b69, 0, none⟩)), (15, .int .i64 y66), (16, .int .i64 y80), (99, .bool true)]) (by kernel_rfl) ?_
              refine OpsT.done ?_
              have hI := hI.mono (pick3 _ _ _ _)
              have hI := hI.drop
              have e := someS h1
              subst e
              exact Qn.thenJ fun a ha => ⟨true, rfl, ha.keep [7, 11, 12, 13, 14, 15, 16, 99] (by kernel_rfl), hI⟩
            · rw [if_neg hb84] at h1
              have hb84 : (y39 != 0) = false := by simpa using hb84
              refine OpsT.keep [7, 11, 12, 13, 14, 15, 16, 88] (S' := [(7, .bool y3), (11, .pointer (some ⟨b42, 0, none⟩)), (12, .int .i64 y39), (13, .int .i64 y53), (14, .pointer (some ⟨b69, 0, none⟩)), (15, .int .i64 y66), (16, .int .i64 y80), (88, .bool false)]) (by (try simp only [hb84]); kernel_rfl) ?_
              refine OpsT.pures (r := [7, 8, 9, 10, 11, 12, 13]) [3, 4, 5, 6] [7, 11, 12, 13, 14, 15, 16, 92] (S' := [(7, .bool y3), (11, .pointer (some ⟨b42, 0, none⟩)), (12, .int .i64 y39), (13, .int .i64 y53), (14, .pointer (some ⟨b69, 0, none⟩)), (15, .int .i64 y66), (16, .int .i64 y80), (92, .bool (y53 != 0))]) (by kernel_rfl) ?_
              by_cases hb85 : (y53 != 0) = true
              · rw [if_pos hb85] at h1
                refine OpsT.keep [7, 11, 12, 13, 14, 15, 16, 92] (S' := [(7, .bool y3), (11, .pointer (some ⟨b42, 0, none⟩)), (12, .int .i64 y39), (13, .int .i64 y53), (14, .pointer (some ⟨b69, 0, none⟩)), (15, .int .i64 y66), (16, .int .i64 y80), (92, .bool true)]) (by (try simp only [hb85]); kernel_rfl) ?_
                refine OpsT.pures (r := []) [7, 8, 9, 10, 11, 12, 13] [7, 11, 12, 13, 14, 15, 16, 99] (S' := [(7, .bool y3), (11, .pointer (some ⟨b42, 0, none⟩)), (12, .int .i64 y39), (13, .int .i64 y53), (14, .pointer (some ⟨b69, 0, none⟩)), (15, .int .i64 y66), (16, .int .i64 y80), (99, .bool true)]) (by kernel_rfl) ?_
                refine OpsT.done ?_
                have hI := hI.mono (pick3 _ _ _ _)
                have hI := hI.drop
                have e := someS h1
                subst e
                exact Qn.thenJ fun a ha => ⟨true, rfl, ha.keep [7, 11, 12, 13, 14, 15, 16, 99] (by kernel_rfl), hI⟩
              · rw [if_neg hb85] at h1
                have hb85 : (y53 != 0) = false := by simpa using hb85
                refine OpsT.keep [7, 11, 12, 13, 14, 15, 16, 92] (S' := [(7, .bool y3), (11, .pointer (some ⟨b42, 0, none⟩)), (12, .int .i64 y39), (13, .int .i64 y53), (14, .pointer (some ⟨b69, 0, none⟩)), (15, .int .i64 y66), (16, .int .i64 y80), (92, .bool false)]) (by (try simp only [hb85]); kernel_rfl) ?_
                refine OpsT.pures (r := [11, 12, 13]) [7, 8, 9, 10] [7, 11, 12, 13, 14, 15, 16, 96] (S' := [(7, .bool y3), (11, .pointer (some ⟨b42, 0, none⟩)), (12, .int .i64 y39), (13, .int .i64 y53), (14, .pointer (some ⟨b69, 0, none⟩)), (15, .int .i64 y66), (16, .int .i64 y80), (96, .bool (y66 != 0))]) (by kernel_rfl) ?_
                by_cases hb86 : (y66 != 0) = true
                · rw [if_pos hb86] at h1
                  refine OpsT.keep [7, 11, 12, 13, 14, 15, 16, 96] (S' := [(7, .bool y3), (11, .pointer (some ⟨b42, 0, none⟩)), (12, .int .i64 y39), (13, .int .i64 y53), (14, .pointer (some ⟨b69, 0, none⟩)), (15, .int .i64 y66), (16, .int .i64 y80), (96, .bool true)]) (by (try simp only [hb86]); kernel_rfl) ?_
                  refine OpsT.pures (r := []) [11, 12, 13] [7, 11, 12, 13, 14, 15, 16, 99] (S' := [(7, .bool y3), (11, .pointer (some ⟨b42, 0, none⟩)), (12, .int .i64 y39), (13, .int .i64 y53), (14, .pointer (some ⟨b69, 0, none⟩)), (15, .int .i64 y66), (16, .int .i64 y80), (99, .bool true)]) (by kernel_rfl) ?_
                  refine OpsT.done ?_
                  have hI := hI.mono (pick3 _ _ _ _)
                  have hI := hI.drop
                  have e := someS h1
                  subst e
                  exact Qn.thenJ fun a ha => ⟨true, rfl, ha.keep [7, 11, 12, 13, 14, 15, 16, 99] (by kernel_rfl), hI⟩
                · rw [if_neg hb86] at h1
                  have hb86 : (y66 != 0) = false := by simpa using hb86
                  refine OpsT.keep [7, 11, 12, 13, 14, 15, 16, 96] (S' := [(7, .bool y3), (11, .pointer (some ⟨b42, 0, none⟩)), (12, .int .i64 y39), (13, .int .i64 y53), (14, .pointer (some ⟨b69, 0, none⟩)), (15, .int .i64 y66), (16, .int .i64 y80), (96, .bool false)]) (by (try simp only [hb86]); kernel_rfl) ?_
                  refine OpsT.pures (r := []) [11, 12, 13] [7, 11, 12, 13, 14, 15, 16, 99] (S' := [(7, .bool y3), (11, .pointer (some ⟨b42, 0, none⟩)), (12, .int .i64 y39), (13, .int .i64 y53), (14, .pointer (some ⟨b69, 0, none⟩)), (15, .int .i64 y66), (16, .int .i64 y80), (99, .bool (y80 != 0))]) (by kernel_rfl) ?_
                  refine OpsT.done ?_
                  have hI := hI.mono (pick3 _ _ _ _)
                  have hI := hI.drop
                  have e := someS h1
                  subst e
                  exact Qn.thenJ fun a ha => ⟨y80 != 0, rfl, ha.keep [7, 11, 12, 13, 14, 15, 16, 99] (by kernel_rfl), hI⟩
          ·
            rintro a w ⟨x83, rfl, ha, hI⟩
            try dsimp only at h0
            refine CodT.of ?_ ha
            by_cases hb87 : x83 = true
            · rw [if_pos hb87] at h0
              refine CodT.yes' (b := x83) (by kernel_rfl) hb87 ?_
              obtain ⟨r1, h1, h0⟩ := bindS h0
              refine CodT.meet (fun a w => ∃ (x88 : Bool), x88 = r1 ∧ Fr 122 [(6, .bool x88)] a ∧ Inv w0 Z81 w A) ?_ ?_
              ·
                refine CodT.regionL [0, 1, 2, 3, 4, 5, 6, 7, 8, 9, 10, 11, 12, 13, 14, 15, 16] (by kernel_rfl) ?_
                refine OpsT.pures (r := [2, 3, 4, 5, 6, 7, 8, 9, 10, 11, 12, 13, 14, 15, 16]) [0, 1] [12, 13, 15, 16, 101] (S' := [(12, .int .i64 y39), (13, .int .i64 y53), (15, .int .i64 y66), (16, .int .i64 y80), (101, .bool y3)]) (by kernel_rfl) ?_
                by_cases hb89 : y3 = true
                · rw [if_pos hb89] at h1
                  refine OpsT.keep [12, 13, 15, 16, 101] (S' := [(12, .int .i64 y39), (13, .int .i64 y53), (15, .int .i64 y66), (16, .int .i64 y80), (101, .bool true)]) (by (try simp only [hb89]); kernel_rfl) ?_
                  refine OpsT.pures (r := [5, 6, 7, 8, 9, 10, 11, 12, 13, 14, 15, 16]) [2, 3, 4] [13, 15, 16, 101, 104] (S' := [(13, .int .i64 y53), (15, .int .i64 y66), (16, .int .i64 y80), (101, .bool true), (104, .bool (y39 != 0))]) (by kernel_rfl) ?_
                  by_cases hb90 : (y39 != 0) = true
                  · rw [if_pos hb90] at h1
                    refine OpsT.keep [13, 15, 16, 101, 104] (S' := [(13, .int .i64 y53), (15, .int .i64 y66), (16, .int .i64 y80), (101, .bool true), (104, .bool true)]) (by (try simp only [hb90]); kernel_rfl) ?_
                    refine OpsT.pures (r := [11, 12, 13, 14, 15, 16]) [5, 6, 7, 8, 9, 10] [16, 101, 107, 110] (S' := [(16, .int .i64 y80), (101, .bool true), (107, .bool true), (110, .bool (y66 != 0))]) (by kernel_rfl) ?_
                    by_cases hb91 : (y66 != 0) = true
                    · rw [if_pos hb91] at h1
                      refine OpsT.keep [16, 101, 107, 110] (S' := [(16, .int .i64 y80), (101, .bool true), (107, .bool true), (110, .bool true)]) (by (try simp only [hb91]); kernel_rfl) ?_
                      refine OpsT.pures (r := []) [11, 12, 13, 14, 15, 16] [6] (S' := [(6, .bool true)]) (by kernel_rfl) ?_
                      refine OpsT.done ?_
                      have hI := hI.drop
                      have hI := hI.drop
                      have e := someS h1
                      subst e
                      exact Qn.thenJ fun a ha => ⟨true, rfl, ha.keep [6] (by kernel_rfl), hI⟩
                    · rw [if_neg hb91] at h1
                      have hb91 : (y66 != 0) = false := by simpa using hb91
                      refine OpsT.keep [16, 101, 107, 110] (S' := [(16, .int .i64 y80), (101, .bool true), (107, .bool true), (110, .bool false)]) (by (try simp only [hb91]); kernel_rfl) ?_
                      refine OpsT.pures (r := []) [11, 12, 13, 14, 15, 16] [6] (S' := [(6, .bool (true == (y80 != 0)))]) (by kernel_rfl) ?_
                      refine OpsT.done ?_
                      have hI := hI.drop
                      have hI := hI.drop
                      have e := someS h1
                      subst e
                      exact Qn.thenJ fun a ha => ⟨true == (y80 != 0), rfl, ha.keep [6] (by kernel_rfl), hI⟩
                  · rw [if_neg hb90] at h1
                    have hb90 : (y39 != 0) = false := by simpa using hb90
                    refine OpsT.keep [13, 15, 16, 101, 104] (S' := [(13, .int .i64 y53), (15, .int .i64 y66), (16, .int .i64 y80), (101, .bool true), (104, .bool false)]) (by (try simp only [hb90]); kernel_rfl) ?_
                    refine OpsT.pures (r := [11, 12, 13, 14, 15, 16]) [5, 6, 7, 8, 9, 10] [16, 101, 107, 110] (S' := [(16, .int .i64 y80), (101, .bool true), (107, .bool (y53 != 0)), (110, .bool (y66 != 0))]) (by kernel_rfl) ?_
                    by_cases hb92 : (y66 != 0) = true
                    · rw [if_pos hb92] at h1
                      refine OpsT.keep [16, 101, 107, 110] (S' := [(16, .int .i64 y80), (101, .bool true), (107, .bool (y53 != 0)), (110, .bool true)]) (by (try simp only [hb92]); kernel_rfl) ?_
                      refine OpsT.pures (r := []) [11, 12, 13, 14, 15, 16] [6] (S' := [(6, .bool ((y53 != 0) == true))]) (by kernel_rfl) ?_
                      refine OpsT.done ?_
                      have hI := hI.drop
                      have hI := hI.drop
                      have e := someS h1
                      subst e
                      exact Qn.thenJ fun a ha => ⟨(y53 != 0) == true, rfl, ha.keep [6] (by kernel_rfl), hI⟩
                    · rw [if_neg hb92] at h1
                      have hb92 : (y66 != 0) = false := by simpa using hb92
                      refine OpsT.keep [16, 101, 107, 110] (S' := [(16, .int .i64 y80), (101, .bool true), (107, .bool (y53 != 0)), (110, .bool false)]) (by (try simp only [hb92]); kernel_rfl) ?_
                      refine OpsT.pures (r := []) [11, 12, 13, 14, 15, 16] [6] (S' := [(6, .bool ((y53 != 0) == (y80 != 0)))]) (by kernel_rfl) ?_
                      refine OpsT.done ?_
                      have hI := hI.drop
                      have hI := hI.drop
                      have e := someS h1
                      subst e
                      exact Qn.thenJ fun a ha => ⟨(y53 != 0) == (y80 != 0), rfl, ha.keep [6] (by kernel_rfl), hI⟩
                · rw [if_neg hb89] at h1
                  have hb89 : y3 = false := by simpa using hb89
                  refine OpsT.keep [12, 13, 15, 16, 101] (S' := [(12, .int .i64 y39), (13, .int .i64 y53), (15, .int .i64 y66), (16, .int .i64 y80), (101, .bool false)]) (by (try simp only [hb89]); kernel_rfl) ?_
                  refine OpsT.pures (r := []) [2, 3, 4, 5, 6, 7, 8, 9, 10, 11, 12, 13, 14, 15, 16] [6] (S' := [(6, .bool false)]) (by kernel_rfl) ?_
                  refine OpsT.done ?_
                  have hI := hI.drop
                  have hI := hI.drop
                  have e := someS h1
                  subst e
                  exact Qn.thenJ fun a ha => ⟨false, rfl, ha.keep [6] (by kernel_rfl), hI⟩
              ·
                rintro a w ⟨x88, rfl, ha, hI⟩
                try dsimp only at h0
                refine CodT.of ?_ ha
                refine CodT.ret ?_
                refine Qn.ret_then ?_
                have e := someS h0
                subst e
                refine Qn.keep [6] (S' := [(6, .bool x88)]) (by kernel_rfl) ?_
                exact post_ret (v := .bool x88) (fun a ha => RunRes.run (vs := [.bool x88]) (.tmp (t := 6) (by kernel_rfl) .nil) ha (by kernel_rfl)) ⟨rfl, hI.weaken (Hp.le_trans (Hp.le_trans (Hp.le_trans hle41 hle55) hle68) hle82)⟩
            · rw [if_neg hb87] at h0
              refine CodT.no' (b := x83) (by kernel_rfl) (by simpa using hb87) ?_
              refine CodT.skip ?_
              refine Qn.then ?_
              obtain ⟨r1, h1, h0⟩ := bindS h0
              refine CodT.meet (fun a w => ∃ (x93 : Bool), x93 = r1 ∧ Fr 122 [(6, .bool x93)] a ∧ Inv w0 Z81 w A) ?_ ?_
              ·
                refine CodT.regionL [0, 1, 2, 3, 4, 5, 6] (by kernel_rfl) ?_
                refine OpsT.pures (r := [2, 3, 4, 5, 6]) [0, 1] [11, 14, 117] (S' := [(11, .pointer (some ⟨b42, 0, none⟩)), (14, .pointer (some ⟨b69, 0, none⟩)), (117, .bool y3)]) (by kernel_rfl) ?_
                by_cases hb94 : y3 = true
                · rw [if_pos hb94] at h1
                  refine OpsT.keep [11, 14, 117] (S' := [(11, .pointer (some ⟨b42, 0, none⟩)), (14, .pointer (some ⟨b69, 0, none⟩)), (117, .bool true)]) (by (try simp only [hb94]); kernel_rfl) ?_
                  refine OpsT.cons (Does.yi (Yl.load (d := 118) (T := 27) (v := .agg ((([.int .i64 y44, .string y45, .string y46, .bool y47, .int .i64 y48, .slice A50 y49.length cp51] : List Value))).toArray) (by kernel_rfl) (ldBN ty27 (l := (([.int .i64 y44, .string y45, .string y46, .bool y47, .int .i64 y48, .slice A50 y49.length cp51] : List Value))) (o := 0) (cs := (([.int .i64 y44, .string y45, .string y46, .bool y47, .int .i64 y48, .slice A50 y49.length cp51] : List Value))) (pick2 _ _ _) (by kernel_rfl) (whole _ _ (by kernel_rfl)))) hI ?_)
                  refine OpsT.cons (Does.yi (Yl.load (d := 119) (T := 27) (v := .agg ((([.int .i64 y71, .string y72, .string y73, .bool y74, .int .i64 y75, .slice A77 y76.length cp78] : List Value))).toArray) (by kernel_rfl) (ldBN ty27 (l := (([.int .i64 y71, .string y72, .string y73, .bool y74, .int .i64 y75, .slice A77 y76.length cp78] : List Value))) (o := 0) (cs := (([.int .i64 y71, .string y72, .string y73, .bool y74, .int .i64 y75, .slice A77 y76.length cp78] : List Value))) (ent_refl _) (by kernel_rfl) (whole _ _ (by kernel_rfl)))) hI ?_)
                  obtain ⟨y96, hc95, h1⟩ := bindS h1
                  try dsimp only at h1
                  refine OpsT.cons (Does.call (d := some 120) (n := 24) (vs := [.agg ((([.int .i64 y44, .string y45, .string y46, .bool y47, .int .i64 y48, .slice A50 y49.length cp51] : List Value))).toArray, .agg ((([.int .i64 y71, .string y72, .string y73, .bool y74, .int .i64 y75, .slice A77 y76.length cp78] : List Value))).toArray]) (by kernel_rfl) en24 (c24 w0 w _ _ hI (hT.mono (Hp.le_trans (Hp.le_trans (Hp.le_trans hle41 hle55) hle68) hle82)) y44 y45 y46 y47 y48 A50 cp51 y49 (hr52.mono (Hp.le_trans hle68 hle82)) y71 y72 y73 y74 y75 A77 cp78 y76 hr79 _ hc95) ?_)
                  rintro e w ⟨rfl, hI⟩
                  refine ⟨_, rfl, ?_⟩
                  refine OpsT.pures (r := []) [5, 6] [6] (S' := [(6, .bool y96)]) (by kernel_rfl) ?_
                  refine OpsT.done ?_
                  have hI := hI.drop
                  have hI := hI.drop
                  have e := someS h1
                  subst e
                  exact Qn.thenJ fun a ha => ⟨y96, rfl, ha.keep [6] (by kernel_rfl), hI⟩
                · rw [if_neg hb94] at h1
                  have hb94 : y3 = false := by simpa using hb94
                  refine OpsT.keep [11, 14, 117] (S' := [(11, .pointer (some ⟨b42, 0, none⟩)), (14, .pointer (some ⟨b69, 0, none⟩)), (117, .bool false)]) (by (try simp only [hb94]); kernel_rfl) ?_
                  refine OpsT.pures (r := []) [2, 3, 4, 5, 6] [6] (S' := [(6, .bool false)]) (by kernel_rfl) ?_
                  refine OpsT.done ?_
                  have hI := hI.drop
                  have hI := hI.drop
                  have e := someS h1
                  subst e
                  exact Qn.thenJ fun a ha => ⟨false, rfl, ha.keep [6] (by kernel_rfl), hI⟩
              ·
                rintro a w ⟨x93, rfl, ha, hI⟩
                try dsimp only at h0
                refine CodT.of ?_ ha
                refine CodT.ret ?_
                have e := someS h0
                subst e
                refine Qn.keep [6] (S' := [(6, .bool x93)]) (by kernel_rfl) ?_
                exact post_ret (v := .bool x93) (fun a ha => RunRes.run (vs := [.bool x93]) (.tmp (t := 6) (by kernel_rfl) .nil) ha (by kernel_rfl)) ⟨rfl, hI.weaken (Hp.le_trans (Hp.le_trans (Hp.le_trans hle41 hle55) hle68) hle82)⟩
end Go.Cen
