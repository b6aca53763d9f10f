/- The walk of the law FileSealed, printed by a program of ours. -/
import Derived.Test.YthdoklobbcedcadDoorWx4
set_option linter.unusedVariables false
set_option linter.unusedSimpArgs false
namespace Go.Cen
set_option maxRecDepth 100000 in
set_option maxHeartbeats 4000000 in
/-- cenotaph/cenotaphlaw08.FileSealed -/
theorem c8 (w0 w : World) (Z : Hp) (A : HP) (hI : Inv w0 Z w A) (hT : Tabs Z) (a0_ID : Int) (a0_Name : ByteArray) (a0_Data : ByteArray) (a0_Sealed : Bool) (a0_Until : Int) (A_a0_Holds : Option Addr) (c_a0_Holds : Nat) (a0_Holds : (List ByteArray)) (hr_a0_Holds : RdS Z cS 1 A_a0_Holds c_a0_Holds a0_Holds) (A_a1 : Option Addr) (c_a1 : Nat) (a1 : (List ApiOp)) (hr_a1 : RdS Z c_ApiOp 6 A_a1 c_a1 a1) (A_a2 : Option Addr) (c_a2 : Nat) (a2 : (List Int)) (hr_a2 : RdS Z (cI .i64) 1 A_a2 c_a2 a2) (r : Bool) (h0 : law08_FileSealed a0_ID a0_Name a0_Data a0_Sealed a0_Until a0_Holds a1 a2 = some r) :
    Calls prog 8 #[.agg ((([.int .i64 a0_ID, .string a0_Name, .string a0_Data, .bool a0_Sealed, .int .i64 a0_Until, .slice A_a0_Holds a0_Holds.length c_a0_Holds] : List Value))).toArray, .slice A_a1 a1.length c_a1, .slice A_a2 a2.length c_a2] w (fun e w' => e = .returned (.bool r) ∧ Inv w0 Z w' A) := by
  have e4 := calls_intro (R := (fun e w' => e = .returned (.bool r) ∧ Inv w0 Z w' A)) (w := w) (args := [.agg ((([.int .i64 a0_ID, .string a0_Name, .string a0_Data, .bool a0_Sealed, .int .i64 a0_Until, .slice A_a0_Holds a0_Holds.length c_a0_Holds] : List Value))).toArray, .slice A_a1 a1.length c_a1, .slice A_a2 a2.length c_a2]) (fn := Go.Proofs.Tryd.f8) 137 Go.Proofs.Tryd.func8 (by rfl) Go.Proofs.Tryd.ntmps8 (by kernel_rfl)
  refine e4 ?_
  clear e4
  unfold law08_FileSealed at h0
  refine CodT.seq ?_
  refine CodT.regionL [0, 1] (by kernel_rfl) ?_
  refine OpsT.cons (Does.boxL (d := 3) (T := 24) (v := .agg ((([.int .i64 a0_ID, .string a0_Name, .string a0_Data, .bool a0_Sealed, .int .i64 a0_Until, .slice A_a0_Holds a0_Holds.length c_a0_Holds] : List Value))).toArray) ((([.int .i64 a0_ID, .string a0_Name, .string a0_Data, .bool a0_Sealed, .int .i64 a0_Until, .slice A_a0_Holds a0_Holds.length c_a0_Holds] : List Value))) (by kernel_rfl) hI (by kernel_rfl) ?_)
  intro b1 w hI
  refine OpsT.pures (r := []) [1] [1, 2, 3] (S' := [(1, .slice A_a1 a1.length c_a1), (2, .slice A_a2 a2.length c_a2), (3, .pointer (some ⟨b1, 0, none⟩))]) (by kernel_rfl) ?_
  refine OpsT.done ?_
  refine Qn.then ?_
  refine CodT.seq ?_
  refine CodT.regionL [0, 1] (by kernel_rfl) ?_
  obtain ⟨y3, hc2, h0⟩ := bindS h0
  try dsimp only at h0
  refine OpsT.cons (Does.call (d := some 15) (n := 9) (vs := []) (by kernel_rfl) en9 (c9 w0 w _ _ hI hT _ hc2) ?_)
  rintro e w ⟨rfl, hI⟩
  refine ⟨_, rfl, ?_⟩
  refine OpsT.pures (r := []) [1] [1, 2, 3, 7] (S' := [(1, .slice A_a1 a1.length c_a1), (2, .slice A_a2 a2.length c_a2), (3, .pointer (some ⟨b1, 0, none⟩)), (7, .bool y3)]) (by kernel_rfl) ?_
  refine OpsT.done ?_
  refine Qn.then ?_
  refine CodT.seq ?_
  refine CodT.seq ?_
  refine CodT.regionL [0, 1] (by kernel_rfl) ?_
  refine OpsT.pures (r := []) [0, 1] [1, 2, 3, 7, 17] (S' := [(1, .slice A_a1 a1.length c_a1), (2, .slice A_a2 a2.length c_a2), (3, .pointer (some ⟨b1, 0, none⟩)), (7, .bool y3), (17, .bool (!y3))]) (by kernel_rfl) ?_
  refine OpsT.done ?_
  refine Qn.then ?_
  by_cases hb4 : (!y3) = true
  · rw [if_pos hb4] at h0
    refine CodT.yes' (b := !y3) (by kernel_rfl) hb4 ?_
    refine CodT.seq ?_
    refine CodT.regionL [0] (by kernel_rfl) ?_
    refine OpsT.pures (r := []) [0] [6] (S' := [(6, .bool false)]) (by kernel_rfl) ?_
    refine OpsT.done ?_
    refine Qn.then ?_
    refine CodT.ret ?_
    refine Qn.ret_then ?_
    have hI := hI.drop
    have e := someS h0
    subst e
    refine Qn.keep [6] (S' := [(6, .bool false)]) (by kernel_rfl) ?_
    exact post_ret (v := .bool false) (fun a ha => RunRes.run (vs := [.bool false]) (.tmp (t := 6) (by kernel_rfl) .nil) ha (by kernel_rfl)) ⟨rfl, hI⟩
  · rw [if_neg hb4] at h0
    refine CodT.no' (b := !y3) (by kernel_rfl) (by simpa using hb4) ?_
    refine CodT.skip ?_
    refine Qn.then ?_
    refine CodT.seq ?_
    obtain ⟨r1, h1, h0⟩ := bindS h0
    refine CodT.meet (fun a w => ∃ (x5 : Bool), x5 = r1 ∧ Fr 137 [(1, .slice A_a1 a1.length c_a1), (2, .slice A_a2 a2.length c_a2), (3, .pointer (some ⟨b1, 0, none⟩)), (7, .bool y3), (32, .bool x5)] a ∧ Inv w0 Z w (star (pt b1 (.cells ((([.int .i64 a0_ID, .string a0_Name, .string a0_Data, .bool a0_Sealed, .int .i64 a0_Until, .slice A_a0_Holds a0_Holds.length c_a0_Holds] : List Value))).toArray 24 (0, 0))) A)) ?_ ?_
    ·
      refine CodT.regionL [0, 1, 2, 3, 4, 5, 6, 7, 8, 9, 10, 11, 12, 13, 14] (by kernel_rfl) ?_
      refine OpsT.pures (r := [4, 5, 6, 7, 8, 9, 10, 11, 12, 13, 14]) [0, 1, 2, 3] [1, 2, 3, 7, 21] (S' := [(1, .slice A_a1 a1.length c_a1), (2, .slice A_a2 a2.length c_a2), (3, .pointer (some ⟨b1, 0, none⟩)), (7, .bool y3), (21, .bool (decide ((a1.length : Int) > 20)))]) (by kernel_rfl) ?_
      by_cases hb6 : (decide ((a1.length : Int) > 20)) = true
      · rw [if_pos hb6] at h1
        refine OpsT.keep [1, 2, 3, 7, 21] (S' := [(1, .slice A_a1 a1.length c_a1), (2, .slice A_a2 a2.length c_a2), (3, .pointer (some ⟨b1, 0, none⟩)), (7, .bool y3), (21, .bool true)]) (by (try simp only [hb6]); kernel_rfl) ?_
        refine OpsT.pures (r := []) [4, 5, 6, 7, 8, 9, 10, 11, 12, 13, 14] [1, 2, 3, 7, 32] (S' := [(1, .slice A_a1 a1.length c_a1), (2, .slice A_a2 a2.length c_a2), (3, .pointer (some ⟨b1, 0, none⟩)), (7, .bool y3), (32, .bool true)]) (by kernel_rfl) ?_
        refine OpsT.done ?_
        have e := someS h1
        subst e
        exact Qn.thenJ fun a ha => ⟨true, rfl, ha.keep [1, 2, 3, 7, 32] (by kernel_rfl), hI⟩
      · rw [if_neg hb6] at h1
        have hb6 : (decide ((a1.length : Int) > 20)) = false := by simpa using hb6
        refine OpsT.keep [1, 2, 3, 7, 21] (S' := [(1, .slice A_a1 a1.length c_a1), (2, .slice A_a2 a2.length c_a2), (3, .pointer (some ⟨b1, 0, none⟩)), (7, .bool y3), (21, .bool false)]) (by (try simp only [hb6]); kernel_rfl) ?_
        refine OpsT.pures (r := [11, 12, 13, 14]) [4, 5, 6, 7, 8, 9, 10] [1, 2, 3, 7, 28] (S' := [(1, .slice A_a1 a1.length c_a1), (2, .slice A_a2 a2.length c_a2), (3, .pointer (some ⟨b1, 0, none⟩)), (7, .bool y3), (28, .bool ((a2.length : Int) != (a1.length : Int)))]) (by kernel_rfl) ?_
        by_cases hb7 : ((a2.length : Int) != (a1.length : Int)) = true
        · rw [if_pos hb7] at h1
          refine OpsT.keep [1, 2, 3, 7, 28] (S' := [(1, .slice A_a1 a1.length c_a1), (2, .slice A_a2 a2.length c_a2), (3, .pointer (some ⟨b1, 0, none⟩)), (7, .bool y3), (28, .bool true)]) (by (try simp only [hb7]); kernel_rfl) ?_
          refine OpsT.pures (r := []) [11, 12, 13, 14] [1, 2, 3, 7, 32] (S' := [(1, .slice A_a1 a1.length c_a1), (2, .slice A_a2 a2.length c_a2), (3, .pointer (some ⟨b1, 0, none⟩)), (7, .bool y3), (32, .bool true)]) (by kernel_rfl) ?_
          refine OpsT.done ?_
          have e := someS h1
          subst e
          exact Qn.thenJ fun a ha => ⟨true, rfl, ha.keep [1, 2, 3, 7, 32] (by kernel_rfl), hI⟩
        · rw [if_neg hb7] at h1
          have hb7 : ((a2.length : Int) != (a1.length : Int)) = false := by simpa using hb7
          refine OpsT.keep [1, 2, 3, 7, 28] (S' := [(1, .slice A_a1 a1.length c_a1), (2, .slice A_a2 a2.length c_a2), (3, .pointer (some ⟨b1, 0, none⟩)), (7, .bool y3), (28, .bool false)]) (by (try simp only [hb7]); kernel_rfl) ?_
          refine OpsT.pures (r := [12, 13, 14]) [11] [1, 2, 3, 7, 28, 29] (S' := [(1, .slice A_a1 a1.length c_a1), (2, .slice A_a2 a2.length c_a2), (3, .pointer (some ⟨b1, 0, none⟩)), (7, .bool y3), (28, .bool false), (29, .pointer (some ⟨b1, 3, none⟩))]) (by kernel_rfl) ?_
          refine OpsT.cons (Does.yi (Yl.load (d := 30) (T := 4) (v := .bool a0_Sealed) (by kernel_rfl) (ldB ty4 (l := (([.int .i64 a0_ID, .string a0_Name, .string a0_Data, .bool a0_Sealed, .int .i64 a0_Until, .slice A_a0_Holds a0_Holds.length c_a0_Holds] : List Value))) (o := 3) (v := .bool a0_Sealed) (ent_refl _) (by kernel_rfl))) hI ?_)
          refine OpsT.pures (r := []) [13, 14] [1, 2, 3, 7, 32] (S' := [(1, .slice A_a1 a1.length c_a1), (2, .slice A_a2 a2.length c_a2), (3, .pointer (some ⟨b1, 0, none⟩)), (7, .bool y3), (32, .bool (!a0_Sealed))]) (by kernel_rfl) ?_
          refine OpsT.done ?_
          have e := someS h1
          subst e
          exact Qn.thenJ fun a ha => ⟨!a0_Sealed, rfl, ha.keep [1, 2, 3, 7, 32] (by kernel_rfl), hI⟩
    ·
      rintro a w ⟨x5, rfl, ha, hI⟩
      try dsimp only at h0
      refine CodT.of ?_ ha
      by_cases hb8 : x5 = true
      · rw [if_pos hb8] at h0
        refine CodT.yes' (b := x5) (by kernel_rfl) hb8 ?_
        refine CodT.seq ?_
        refine CodT.regionL [0, 1] (by kernel_rfl) ?_
        refine OpsT.pures (r := []) [0, 1] [6] (S' := [(6, .bool y3)]) (by kernel_rfl) ?_
        refine OpsT.done ?_
        refine Qn.then ?_
        refine CodT.ret ?_
        refine Qn.ret_then ?_
        have hI := hI.drop
        have e := someS h0
        subst e
        refine Qn.keep [6] (S' := [(6, .bool y3)]) (by kernel_rfl) ?_
        exact post_ret (v := .bool y3) (fun a ha => RunRes.run (vs := [.bool y3]) (.tmp (t := 6) (by kernel_rfl) .nil) ha (by kernel_rfl)) ⟨rfl, hI⟩
      · rw [if_neg hb8] at h0
        refine CodT.no' (b := x5) (by kernel_rfl) (by simpa using hb8) ?_
        refine CodT.skip ?_
        refine Qn.then ?_
        refine CodT.seq ?_
        refine CodT.regionL [0] (by kernel_rfl) ?_
        refine OpsT.pures (r := []) [0] [1, 2, 3, 7, 8] (S' := [(1, .slice A_a1 a1.length c_a1), (2, .slice A_a2 a2.length c_a2), (3, .pointer (some ⟨b1, 0, none⟩)), (7, .bool y3), (8, .int .i64 0)]) (by kernel_rfl) ?_
        refine OpsT.done ?_
        refine Qn.then ?_
        refine CodT.seq ?_
        refine CodT.seq ?_
        refine CodT.regionL [0] (by kernel_rfl) ?_
        refine OpsT.pures (r := []) [0] [1, 2, 3, 7, 8, 9] (S' := [(1, .slice A_a1 a1.length c_a1), (2, .slice A_a2 a2.length c_a2), (3, .pointer (some ⟨b1, 0, none⟩)), (7, .bool y3), (8, .int .i64 0), (9, .int .i64 0)]) (by kernel_rfl) ?_
        refine OpsT.done ?_
        refine Qn.then ?_
        obtain ⟨r1, h1, h0⟩ := bindS h0
        refine CodT.meet1 (fun a w => ∃ (Z9 : Hp), .inr () = r1 ∧ Fr 137 [(7, .bool y3)] a ∧ Inv w0 Z9 w A ∧ Z.le Z9) ?_ ?_
        ·
          refine CodT.block ?_
          refine (fun a ha => wp_loopN (fun k a w => ∃ (x13 : Int) (x14 : Int) (x15 : Int) (x16 : ByteArray) (x17 : ByteArray) (x18 : Bool) (x19 : Int) (x20 : (List ByteArray)) (Z11 : Hp) (A21 : Option Addr) (cp22 : Nat), law08_FileSealed.l0 a1 y3 a2 k x13 x14 x15 x16 x17 x18 x19 x20 = some r1 ∧ Fr 137 [(1, .slice A_a1 a1.length c_a1), (2, .slice A_a2 a2.length c_a2), (3, .pointer (some ⟨b1, 0, none⟩)), (7, .bool y3), (8, .int .i64 x13), (9, .int .i64 x14)] a ∧ Inv w0 Z11 w (star (pt b1 (.cells ((([.int .i64 x15, .string x16, .string x17, .bool x18, .int .i64 x19, .slice A21 x20.length cp22] : List Value))).toArray 24 (0, 0))) A) ∧ Z.le Z11 ∧ RdS Z11 cS 1 A21 cp22 x20) ?_ FU a w ⟨0, 0, a0_ID, a0_Name, a0_Data, a0_Sealed, a0_Until, a0_Holds, Z, A_a0_Holds, c_a0_Holds, h1, ha.keep [1, 2, 3, 7, 8, 9] (by kernel_rfl), hI, (Hp.le_refl _), hr_a0_Holds⟩)
          clear h1 hI
          rintro k a w ⟨x13, x14, x15, x16, x17, x18, x19, x20, Z11, A21, cp22, h1, ha, hI, hle12, hr23⟩
          rcases k with _ | k
          · cases h1
          simp only [law08_FileSealed.l0] at h1
          refine CodT.of ?_ ha
          refine CodT.seq ?_
          refine CodT.seq ?_
          refine CodT.regionL [0, 1, 2, 3] (by kernel_rfl) ?_
          refine OpsT.pures (r := []) [0, 1, 2, 3] [1, 2, 3, 7, 8, 9, 37] (S' := [(1, .slice A_a1 a1.length c_a1), (2, .slice A_a2 a2.length c_a2), (3, .pointer (some ⟨b1, 0, none⟩)), (7, .bool y3), (8, .int .i64 x13), (9, .int .i64 x14), (37, .bool (decide (x14 < (a1.length : Int))))]) (by kernel_rfl) ?_
          refine OpsT.done ?_
          refine Qn.then ?_
          by_cases hb24 : (decide (x14 < (a1.length : Int))) = true
          · rw [if_pos hb24] at h1
            refine CodT.yes' (b := decide (x14 < (a1.length : Int))) (by kernel_rfl) hb24 ?_
            refine CodT.skip ?_
            refine Qn.then ?_
            refine CodT.seq ?_
            refine CodT.block ?_
            refine CodT.seq ?_
            refine CodT.drawI (n := 7) [] (by kernel_rfl) (by kernel_rfl) hI ?_
            intro w hI
            refine GmT.p' 1 41 (.slice A_a1 a1.length c_a1) (by kernel_rfl) (by kernel_rfl) ?_
            refine GmT.p' 2 42 (.int .i64 x14) (by kernel_rfl) (by kernel_rfl) ?_
            refine GmT.r (i := 0) 2 (by kernel_rfl) (by kernel_rfl) (Yl.load (d := 40) (T := 24) (v := .agg ((([.int .i64 x15, .string x16, .string x17, .bool x18, .int .i64 x19, .slice A21 x20.length cp22] : List Value))).toArray) (by kernel_rfl) (ldBN ty24 (l := (([.int .i64 x15, .string x16, .string x17, .bool x18, .int .i64 x19, .slice A21 x20.length cp22] : List Value))) (o := 0) (cs := (([.int .i64 x15, .string x16, .string x17, .bool x18, .int .i64 x19, .slice A21 x20.length cp22] : List Value))) (ent_refl _) (by kernel_rfl) (whole _ _ (by kernel_rfl)))) hI ?_
            obtain ⟨hg25, h1⟩ := guardS h1
            obtain ⟨g26, o30, hA27, hr28, hl29⟩ := RdS.get (hr_a1.mono hle12) hg25.1 hg25.2
            refine GmT.r (i := 3) 2 (by kernel_rfl) (by kernel_rfl) (Yl.indexSlice (d := 43) (T := 49) (cc := c_a1) (k := .i64) (j := x14) (g := g26) (o := o30) (by kernel_rfl) Go.Proofs.Tryd.underlying49 ty43 hA27 hg25.1 hg25.2) hI ?_
            refine GmT.r (i := 4) 2 (by kernel_rfl) (by kernel_rfl) (Yl.load (d := 44) (T := 43) (v := .agg (c_ApiOp (gt a1 x14)).toArray) (by kernel_rfl) (ldRN ty43 (cs := c_ApiOp (gt a1 x14)) 0 (fun w hC => hr28 w0 w _ hC) hl29 (whole _ _ hl29))) hI ?_
            obtain ⟨y32, hc31, h1⟩ := bindS h1
            try dsimp only at h1
            refine GmT.o (i := 5) (by kernel_rfl) (Does.call (d := some 45) (n := 23) (vs := [.agg ((([.int .i64 x15, .string x16, .string x17, .bool x18, .int .i64 x19, .slice A21 x20.length cp22] : List Value))).toArray, .agg (c_ApiOp (gt a1 x14)).toArray]) (by kernel_rfl) en23 (c23 w0 w _ _ hI (hT.mono hle12) x15 x16 x17 x18 x19 A21 cp22 x20 hr23 (gt a1 x14) _ hc31) ?_)
            rintro e w ⟨rfl, hI⟩
            refine ⟨_, rfl, ?_⟩
            refine ⟨fun _ _ => hI, ?_⟩
            refine GmT.p' 6 10 (.bool y32) (by kernel_rfl) (by kernel_rfl) ?_
            refine GmT.done (by kernel_rfl) ?_
            refine Qn.then ?_
            refine CodT.seq ?_
            refine CodT.seq ?_
            refine CodT.regionL [0, 1] (by kernel_rfl) ?_
            refine OpsT.pures (r := []) [0, 1] [1, 2, 3, 7, 8, 9, 47] (S' := [(1, .slice A_a1 a1.length c_a1), (2, .slice A_a2 a2.length c_a2), (3, .pointer (some ⟨b1, 0, none⟩)), (7, .bool y3), (8, .int .i64 x13), (9, .int .i64 x14), (47, .bool (!y32))]) (by kernel_rfl) ?_
            refine OpsT.done ?_
            refine Qn.then ?_
            by_cases hb33 : (!y32) = true
            · rw [if_pos hb33] at h1
              refine CodT.yes' (b := !y32) (by kernel_rfl) hb33 ?_
              refine CodT.seq ?_
              refine CodT.regionL [0, 1] (by kernel_rfl) ?_
              refine OpsT.pures (r := []) [0, 1] [6] (S' := [(6, .bool y3)]) (by kernel_rfl) ?_
              refine OpsT.done ?_
              refine Qn.then ?_
              refine CodT.ret ?_
              refine Qn.ret_then ?_
              refine Qn.block_ret ?_
              refine Qn.ret_then ?_
              refine Qn.ret_then ?_
              refine Qn.block_ret ?_
              refine Qn.ret_then ?_
              refine Qn.ret_then ?_
              have hI := hI.drop
              have e := someS h1
              subst e
              try dsimp only at h0
              have e := someS h0
              subst e
              refine Qn.keep [6] (S' := [(6, .bool y3)]) (by kernel_rfl) ?_
              exact post_ret (v := .bool y3) (fun a ha => RunRes.run (vs := [.bool y3]) (.tmp (t := 6) (by kernel_rfl) .nil) ha (by kernel_rfl)) ⟨rfl, hI.weaken hle12⟩
            · rw [if_neg hb33] at h1
              refine CodT.no' (b := !y32) (by kernel_rfl) (by simpa using hb33) ?_
              refine CodT.skip ?_
              refine Qn.then ?_
              refine CodT.seq ?_
              refine CodT.regionL [0, 1, 2, 3, 4, 5, 6] (by kernel_rfl) ?_
              refine OpsT.pures (r := [3, 4, 5, 6]) [0, 1, 2] [1, 2, 3, 7, 9, 49, 50, 51] (S' := [(1, .slice A_a1 a1.length c_a1), (2, .slice A_a2 a2.length c_a2), (3, .pointer (some ⟨b1, 0, none⟩)), (7, .bool y3), (9, .int .i64 x14), (49, .int .i64 x13), (50, .slice A_a2 a2.length c_a2), (51, .int .i64 x14)]) (by kernel_rfl) ?_
              obtain ⟨hg34, h1⟩ := guardS h1
              obtain ⟨g35, o39, hA36, hr37, hl38⟩ := RdS.get (hr_a2.mono hle12) hg34.1 hg34.2
              refine OpsT.cons (Does.yi (Yl.indexSlice (d := 52) (T := 52) (cc := c_a2) (k := .i64) (j := x14) (g := g35) (o := o39) (by kernel_rfl) Go.Proofs.Tryd.underlying52 ty3 hA36 hg34.1 hg34.2) hI ?_)
              refine OpsT.cons (Does.yi (Yl.load (d := 53) (T := 3) (v := .int .i64 (gt a2 x14)) (by kernel_rfl) (ldR ty3 (v := .int .i64 (gt a2 x14)) 0 (fun w hC => hr37 w0 w _ hC) (by kernel_rfl))) hI ?_)
              obtain ⟨y41, hc40, h1⟩ := bindS h1
              try dsimp only at h1
              refine OpsT.cons (Does.call (d := some 54) (n := 24) (vs := [.int .i64 x13, .int .i64 (gt a2 x14)]) (by kernel_rfl) en24 (c24 w0 w _ _ hI (hT.mono hle12) x13 (gt a2 x14) _ hc40) ?_)
              rintro e w ⟨rfl, hI⟩
              refine ⟨_, rfl, ?_⟩
              refine OpsT.pures (r := []) [6] [1, 2, 3, 7, 8, 9] (S' := [(1, .slice A_a1 a1.length c_a1), (2, .slice A_a2 a2.length c_a2), (3, .pointer (some ⟨b1, 0, none⟩)), (7, .bool y3), (8, .int .i64 y41), (9, .int .i64 x14)]) (by kernel_rfl) ?_
              refine OpsT.done ?_
              refine Qn.then ?_
              refine CodT.seq ?_
              refine CodT.regionL [0, 1, 2, 3] (by kernel_rfl) ?_
              refine OpsT.cons (Does.yi (Yl.load (d := 55) (T := 24) (v := .agg ((([.int .i64 x15, .string x16, .string x17, .bool x18, .int .i64 x19, .slice A21 x20.length cp22] : List Value))).toArray) (by kernel_rfl) (ldBN ty24 (l := (([.int .i64 x15, .string x16, .string x17, .bool x18, .int .i64 x19, .slice A21 x20.length cp22] : List Value))) (o := 0) (cs := (([.int .i64 x15, .string x16, .string x17, .bool x18, .int .i64 x19, .slice A21 x20.length cp22] : List Value))) (ent_refl _) (by kernel_rfl) (whole _ _ (by kernel_rfl)))) hI ?_)
              refine OpsT.pures (r := [2, 3]) [1] [1, 2, 3, 7, 8, 9, 55, 56] (S' := [(1, .slice A_a1 a1.length c_a1), (2, .slice A_a2 a2.length c_a2), (3, .pointer (some ⟨b1, 0, none⟩)), (7, .bool y3), (8, .int .i64 y41), (9, .int .i64 x14), (55, .agg ((([.int .i64 x15, .string x16, .string x17, .bool x18, .int .i64 x19, .slice A21 x20.length cp22] : List Value))).toArray), (56, .int .i64 y41)]) (by kernel_rfl) ?_
              obtain ⟨y43, hc42, h1⟩ := bindS h1
              try dsimp only at h1
              refine OpsT.cons (Does.call (d := some 57) (n := 25) (vs := [.agg ((([.int .i64 x15, .string x16, .string x17, .bool x18, .int .i64 x19, .slice A21 x20.length cp22] : List Value))).toArray, .int .i64 y41]) (by kernel_rfl) en25 (c25 w0 w _ _ hI (hT.mono hle12) x15 x16 x17 x18 x19 A21 cp22 x20 hr23 y41 _ hc42) ?_)
              rintro e w ⟨rfl, hI⟩
              refine ⟨_, rfl, ?_⟩
              refine OpsT.pures (r := []) [3] [1, 2, 3, 7, 8, 9, 11] (S' := [(1, .slice A_a1 a1.length c_a1), (2, .slice A_a2 a2.length c_a2), (3, .pointer (some ⟨b1, 0, none⟩)), (7, .bool y3), (8, .int .i64 y41), (9, .int .i64 x14), (11, .bool y43)]) (by kernel_rfl) ?_
              refine OpsT.done ?_
              refine Qn.then ?_
              obtain ⟨r2, h2, h1⟩ := bindS h1
              refine CodT.meet (fun a w => ∃ (x47 : Int) (x48 : ByteArray) (x49 : ByteArray) (x50 : Bool) (x51 : Int) (x52 : (List ByteArray)) (x56 : Int) (Z44 : Hp) (b46 : Nat) (A53 : Option Addr) (cp54 : Nat), (x47, x48, x49, x50, x51, x52, x56) = r2 ∧ Fr 137 [(1, .slice A_a1 a1.length c_a1), (2, .slice A_a2 a2.length c_a2), (3, .pointer (some ⟨b1, 0, none⟩)), (7, .bool y3), (8, .int .i64 y41), (9, .int .i64 x14), (11, .bool y43), (12, .pointer (some ⟨b46, 0, none⟩)), (14, .int .i64 x56)] a ∧ Inv w0 Z44 w (star (pt b46 (.cells ((([.int .i64 x47, .string x48, .string x49, .bool x50, .int .i64 x51, .slice A53 x52.length cp54] : List Value))).toArray 24 (0, 0))) (star (pt b1 (.cells ((([.int .i64 x15, .string x16, .string x17, .bool x18, .int .i64 x19, .slice A21 x20.length cp22] : List Value))).toArray 24 (0, 0))) A)) ∧ Z11.le Z44 ∧ RdS Z44 cS 1 A53 cp54 x52) ?_ ?_
              ·
                refine CodT.drawI (n := 16) [13, 14] (by kernel_rfl) (by kernel_rfl) hI ?_
                intro w hI
                refine GmT.p' 1 60 (.slice A_a1 a1.length c_a1) (by kernel_rfl) (by kernel_rfl) ?_
                refine GmT.p' 2 61 (.int .i64 x14) (by kernel_rfl) (by kernel_rfl) ?_
                refine GmT.p' 5 64 (.int .i64 y41) (by kernel_rfl) (by kernel_rfl) ?_
                refine GmT.r (i := 0) 2 (by kernel_rfl) (by kernel_rfl) (Yl.load (d := 59) (T := 24) (v := .agg ((([.int .i64 x15, .string x16, .string x17, .bool x18, .int .i64 x19, .slice A21 x20.length cp22] : List Value))).toArray) (by kernel_rfl) (ldBN ty24 (l := (([.int .i64 x15, .string x16, .string x17, .bool x18, .int .i64 x19, .slice A21 x20.length cp22] : List Value))) (o := 0) (cs := (([.int .i64 x15, .string x16, .string x17, .bool x18, .int .i64 x19, .slice A21 x20.length cp22] : List Value))) (ent_refl _) (by kernel_rfl) (whole _ _ (by kernel_rfl)))) hI ?_
                obtain ⟨hg57, h2⟩ := guardS h2
                obtain ⟨g58, o62, hA59, hr60, hl61⟩ := RdS.get (hr_a1.mono hle12) hg57.1 hg57.2
                refine GmT.r (i := 3) 2 (by kernel_rfl) (by kernel_rfl) (Yl.indexSlice (d := 62) (T := 49) (cc := c_a1) (k := .i64) (j := x14) (g := g58) (o := o62) (by kernel_rfl) Go.Proofs.Tryd.underlying49 ty43 hA59 hg57.1 hg57.2) hI ?_
                refine GmT.r (i := 4) 2 (by kernel_rfl) (by kernel_rfl) (Yl.load (d := 63) (T := 43) (v := .agg (c_ApiOp (gt a1 x14)).toArray) (by kernel_rfl) (ldRN ty43 (cs := c_ApiOp (gt a1 x14)) 0 (fun w hC => hr60 w0 w _ hC) hl61 (whole _ _ hl61))) hI ?_
                refine GmT.several [6, 11, 12] (by kernel_rfl) rfl ?_
                intro i hi; simp only [List.mem_cons, List.not_mem_nil, or_false] at hi; rcases hi with rfl | rfl | rfl
                ·
                  obtain ⟨⟨y64, y65, y66, y67, y68, y69, y73, y75⟩, hc63, h2⟩ := bindS h2
                  try dsimp only at h2
                  rw [lst_set]
                  refine (Does.call (d := some 65) (n := 20) (vs := [.agg ((([.int .i64 x15, .string x16, .string x17, .bool x18, .int .i64 x19, .slice A21 x20.length cp22] : List Value))).toArray, .agg (c_ApiOp (gt a1 x14)).toArray, .int .i64 y41]) (by kernel_rfl) en20 (c20 w0 w _ _ hI (hT.mono hle12) x15 x16 x17 x18 x19 A21 cp22 x20 hr23 (gt a1 x14) y41 _ hc63) ?_)
                  rintro e w ⟨A70, cp71, Z76, hle77, rfl, hr72, hl74, hI⟩
                  refine ⟨_, rfl, ?_⟩
                  have hC := hI
                  have hC := hC.weaken hle77
                  refine ⟨fun _ _ => hC, ?_⟩
                  refine GmT.p' 7 58 (.tuple #[.agg ((([.int .i64 y64, .string y65, .string y66, .bool y67, .int .i64 y68, .slice A70 y69.length cp71] : List Value))).toArray, .agg (c_ApiEvent y73).toArray, .int .i64 y75]) (by kernel_rfl) (by kernel_rfl) ?_
                  refine GmT.p' 8 66 (.agg ((([.int .i64 y64, .string y65, .string y66, .bool y67, .int .i64 y68, .slice A70 y69.length cp71] : List Value))).toArray) (by kernel_rfl) (by kernel_rfl) ?_
                  refine GmT.p' 9 67 (.agg (c_ApiEvent y73).toArray) (by kernel_rfl) (by kernel_rfl) ?_
                  refine GmT.p' 10 68 (.int .i64 y75) (by kernel_rfl) (by kernel_rfl) ?_
                  refine GmT.several [11, 12] (by kernel_rfl) rfl ?_
                  intro i hi; simp only [List.mem_cons, List.not_mem_nil, or_false] at hi; rcases hi with rfl | rfl
                  ·
                    rw [lst_set]
                    refine (Does.allocL (d := 12) (T := 24) ((([.int .i64 0, .string (⟨#[]⟩ : ByteArray), .string (⟨#[]⟩ : ByteArray), .bool false, .int .i64 0, .slice none 0 0] : List Value))) (by kernel_rfl) ty24 hI (by kernel_rfl) ?_)
                    intro b78 w hI
                    have hC := hI
                    have hC := hC.drop
                    have hC := hC.weaken hle77
                    refine ⟨fun _ _ => hC, ?_⟩
                    refine GmT.o (i := 12) (by kernel_rfl) (Does.allocL (d := 13) (T := 39) (c_ApiEvent (ApiEvent.mk 0 0 (⟨#[]⟩ : ByteArray) 0 0 (List.replicate 32 (0 : Int)))) (by kernel_rfl) ty39 hI (by kernel_rfl) ?_)
                    intro b79 w hI
                    have hC := hI
                    have hC := hC.drop
                    have hC := hC.drop
                    have hC := hC.weaken hle77
                    refine ⟨fun _ _ => hC, ?_⟩
                    have hI := hI.mono (pick2 _ _ _)
                    refine GmT.o (i := 13) (by kernel_rfl) (Does.storeLit (T := 24) (b := b78) (o := 0) (v := .agg ((([.int .i64 y64, .string y65, .string y66, .bool y67, .int .i64 y68, .slice A70 y69.length cp71] : List Value))).toArray) (l := (([.int .i64 0, .string (⟨#[]⟩ : ByteArray), .string (⟨#[]⟩ : ByteArray), .bool false, .int .i64 0, .slice none 0 0] : List Value))) (vs := (([.int .i64 y64, .string y65, .string y66, .bool y67, .int .i64 y68, .slice A70 y69.length cp71] : List Value))) (L' := (([.int .i64 y64, .string y65, .string y66, .bool y67, .int .i64 y68, .slice A70 y69.length cp71] : List Value))) (by kernel_rfl) ty24 hI (by kernel_rfl) (by kernel_rfl) (by kernel_rfl) (by kernel_rfl) (by kernel_rfl) ?_)
                    intro w hI
                    refine ⟨fun h => absurd h (by decide), ?_⟩
                    have hI := hI.mono (pick2 _ _ _)
                    refine GmT.o (i := 14) (by kernel_rfl) (Does.storeLit (T := 39) (b := b79) (o := 0) (v := .agg (c_ApiEvent y73).toArray) (l := c_ApiEvent (ApiEvent.mk 0 0 (⟨#[]⟩ : ByteArray) 0 0 (List.replicate 32 (0 : Int)))) (vs := c_ApiEvent y73) (L' := c_ApiEvent y73) (by kernel_rfl) ty39 hI (by kernel_rfl) (len_ApiEvent _ hl74) (by rw [(len_ApiEvent _ (by kernel_rfl))]; kernel_rfl) (ones_app _ _ (by kernel_rfl) (ones_cA _)) (lset_all _ _ (Eq.trans (len_ApiEvent _ hl74) (Eq.symm (len_ApiEvent _ (by kernel_rfl))))) ?_)
                    intro w hI
                    refine ⟨fun h => absurd h (by decide), ?_⟩
                    refine GmT.p' 15 14 (.int .i64 y75) (by kernel_rfl) (by kernel_rfl) ?_
                    refine GmT.done (by kernel_rfl) ?_
                    have hI := hI.drop
                    have e := someS h2
                    subst e
                    exact Qn.thenJ fun a ha => ⟨y64, y65, y66, y67, y68, y69, y75, Z76, b78, A70, cp71, rfl, ha.keep [1, 2, 3, 7, 8, 9, 11, 12, 14] (by kernel_rfl), hI, hle77, hr72⟩
                  ·
                    rw [lst_set]
                    refine (Does.allocL (d := 13) (T := 39) (c_ApiEvent (ApiEvent.mk 0 0 (⟨#[]⟩ : ByteArray) 0 0 (List.replicate 32 (0 : Int)))) (by kernel_rfl) ty39 hI (by kernel_rfl) ?_)
                    intro b80 w hI
                    have hC := hI
                    have hC := hC.drop
                    have hC := hC.weaken hle77
                    refine ⟨fun _ _ => hC, ?_⟩
                    refine GmT.o (i := 11) (by kernel_rfl) (Does.allocL (d := 12) (T := 24) ((([.int .i64 0, .string (⟨#[]⟩ : ByteArray), .string (⟨#[]⟩ : ByteArray), .bool false, .int .i64 0, .slice none 0 0] : List Value))) (by kernel_rfl) ty24 hI (by kernel_rfl) ?_)
                    intro b81 w hI
                    have hC := hI
                    have hC := hC.drop
                    have hC := hC.drop
                    have hC := hC.weaken hle77
                    refine ⟨fun _ _ => hC, ?_⟩
                    refine GmT.o (i := 13) (by kernel_rfl) (Does.storeLit (T := 24) (b := b81) (o := 0) (v := .agg ((([.int .i64 y64, .string y65, .string y66, .bool y67, .int .i64 y68, .slice A70 y69.length cp71] : List Value))).toArray) (l := (([.int .i64 0, .string (⟨#[]⟩ : ByteArray), .string (⟨#[]⟩ : ByteArray), .bool false, .int .i64 0, .slice none 0 0] : List Value))) (vs := (([.int .i64 y64, .string y65, .string y66, .bool y67, .int .i64 y68, .slice A70 y69.length cp71] : List Value))) (L' := (([.int .i64 y64, .string y65, .string y66, .bool y67, .int .i64 y68, .slice A70 y69.length cp71] : List Value))) (by kernel_rfl) ty24 hI (by kernel_rfl) (by kernel_rfl) (by kernel_rfl) (by kernel_rfl) (by kernel_rfl) ?_)
                    intro w hI
                    refine ⟨fun h => absurd h (by decide), ?_⟩
                    have hI := hI.mono (pick2 _ _ _)
                    refine GmT.o (i := 14) (by kernel_rfl) (Does.storeLit (T := 39) (b := b80) (o := 0) (v := .agg (c_ApiEvent y73).toArray) (l := c_ApiEvent (ApiEvent.mk 0 0 (⟨#[]⟩ : ByteArray) 0 0 (List.replicate 32 (0 : Int)))) (vs := c_ApiEvent y73) (L' := c_ApiEvent y73) (by kernel_rfl) ty39 hI (by kernel_rfl) (len_ApiEvent _ hl74) (by rw [(len_ApiEvent _ (by kernel_rfl))]; kernel_rfl) (ones_app _ _ (by kernel_rfl) (ones_cA _)) (lset_all _ _ (Eq.trans (len_ApiEvent _ hl74) (Eq.symm (len_ApiEvent _ (by kernel_rfl))))) ?_)
                    intro w hI
                    refine ⟨fun h => absurd h (by decide), ?_⟩
                    refine GmT.p' 15 14 (.int .i64 y75) (by kernel_rfl) (by kernel_rfl) ?_
                    refine GmT.done (by kernel_rfl) ?_
                    have hI := hI.drop
                    have e := someS h2
                    subst e
                    exact Qn.thenJ fun a ha => ⟨y64, y65, y66, y67, y68, y69, y75, Z76, b81, A70, cp71, rfl, ha.keep [1, 2, 3, 7, 8, 9, 11, 12, 14] (by kernel_rfl), hI, hle77, hr72⟩
                ·
                  rw [lst_set]
                  refine (Does.allocL (d := 12) (T := 24) ((([.int .i64 0, .string (⟨#[]⟩ : ByteArray), .string (⟨#[]⟩ : ByteArray), .bool false, .int .i64 0, .slice none 0 0] : List Value))) (by kernel_rfl) ty24 hI (by kernel_rfl) ?_)
                  intro b82 w hI
                  have hC := hI
                  have hC := hC.drop
                  refine ⟨fun _ _ => hC, ?_⟩
                  refine GmT.several [6, 12] (by kernel_rfl) rfl ?_
                  intro i hi; simp only [List.mem_cons, List.not_mem_nil, or_false] at hi; rcases hi with rfl | rfl
                  ·
                    obtain ⟨⟨y84, y85, y86, y87, y88, y89, y93, y95⟩, hc83, h2⟩ := bindS h2
                    try dsimp only at h2
                    rw [lst_set]
                    refine (Does.call (d := some 65) (n := 20) (vs := [.agg ((([.int .i64 x15, .string x16, .string x17, .bool x18, .int .i64 x19, .slice A21 x20.length cp22] : List Value))).toArray, .agg (c_ApiOp (gt a1 x14)).toArray, .int .i64 y41]) (by kernel_rfl) en20 (c20 w0 w _ _ hI (hT.mono hle12) x15 x16 x17 x18 x19 A21 cp22 x20 hr23 (gt a1 x14) y41 _ hc83) ?_)
                    rintro e w ⟨A90, cp91, Z96, hle97, rfl, hr92, hl94, hI⟩
                    refine ⟨_, rfl, ?_⟩
                    have hC := hI
                    have hC := hC.drop
                    have hC := hC.weaken hle97
                    refine ⟨fun _ _ => hC, ?_⟩
                    refine GmT.p' 7 58 (.tuple #[.agg ((([.int .i64 y84, .string y85, .string y86, .bool y87, .int .i64 y88, .slice A90 y89.length cp91] : List Value))).toArray, .agg (c_ApiEvent y93).toArray, .int .i64 y95]) (by kernel_rfl) (by kernel_rfl) ?_
                    refine GmT.p' 8 66 (.agg ((([.int .i64 y84, .string y85, .string y86, .bool y87, .int .i64 y88, .slice A90 y89.length cp91] : List Value))).toArray) (by kernel_rfl) (by kernel_rfl) ?_
                    refine GmT.p' 9 67 (.agg (c_ApiEvent y93).toArray) (by kernel_rfl) (by kernel_rfl) ?_
                    refine GmT.p' 10 68 (.int .i64 y95) (by kernel_rfl) (by kernel_rfl) ?_
                    refine GmT.o (i := 12) (by kernel_rfl) (Does.allocL (d := 13) (T := 39) (c_ApiEvent (ApiEvent.mk 0 0 (⟨#[]⟩ : ByteArray) 0 0 (List.replicate 32 (0 : Int)))) (by kernel_rfl) ty39 hI (by kernel_rfl) ?_)
                    intro b98 w hI
                    have hC := hI
                    have hC := hC.drop
                    have hC := hC.drop
                    have hC := hC.weaken hle97
                    refine ⟨fun _ _ => hC, ?_⟩
                    have hI := hI.mono (pick2 _ _ _)
                    refine GmT.o (i := 13) (by kernel_rfl) (Does.storeLit (T := 24) (b := b82) (o := 0) (v := .agg ((([.int .i64 y84, .string y85, .string y86, .bool y87, .int .i64 y88, .slice A90 y89.length cp91] : List Value))).toArray) (l := (([.int .i64 0, .string (⟨#[]⟩ : ByteArray), .string (⟨#[]⟩ : ByteArray), .bool false, .int .i64 0, .slice none 0 0] : List Value))) (vs := (([.int .i64 y84, .string y85, .string y86, .bool y87, .int .i64 y88, .slice A90 y89.length cp91] : List Value))) (L' := (([.int .i64 y84, .string y85, .string y86, .bool y87, .int .i64 y88, .slice A90 y89.length cp91] : List Value))) (by kernel_rfl) ty24 hI (by kernel_rfl) (by kernel_rfl) (by kernel_rfl) (by kernel_rfl) (by kernel_rfl) ?_)
                    intro w hI
                    refine ⟨fun h => absurd h (by decide), ?_⟩
                    have hI := hI.mono (pick2 _ _ _)
                    refine GmT.o (i := 14) (by kernel_rfl) (Does.storeLit (T := 39) (b := b98) (o := 0) (v := .agg (c_ApiEvent y93).toArray) (l := c_ApiEvent (ApiEvent.mk 0 0 (⟨#[]⟩ : ByteArray) 0 0 (List.replicate 32 (0 : Int)))) (vs := c_ApiEvent y93) (L' := c_ApiEvent y93) (by kernel_rfl) ty39 hI (by kernel_rfl) (len_ApiEvent _ hl94) (by rw [(len_ApiEvent _ (by kernel_rfl))]; kernel_rfl) (ones_app _ _ (by kernel_rfl) (ones_cA _)) (lset_all _ _ (Eq.trans (len_ApiEvent _ hl94) (Eq.symm (len_ApiEvent _ (by kernel_rfl))))) ?_)
                    intro w hI
                    refine ⟨fun h => absurd h (by decide), ?_⟩
                    refine GmT.p' 15 14 (.int .i64 y95) (by kernel_rfl) (by kernel_rfl) ?_
                    refine GmT.done (by kernel_rfl) ?_
                    have hI := hI.drop
                    have e := someS h2
                    subst e
                    exact Qn.thenJ fun a ha => ⟨y84, y85, y86, y87, y88, y89, y95, Z96, b82, A90, cp91, rfl, ha.keep [1, 2, 3, 7, 8, 9, 11, 12, 14] (by kernel_rfl), hI, hle97, hr92⟩
                  ·
                    rw [lst_set]
                    refine (Does.allocL (d := 13) (T := 39) (c_ApiEvent (ApiEvent.mk 0 0 (⟨#[]⟩ : ByteArray) 0 0 (List.replicate 32 (0 : Int)))) (by kernel_rfl) ty39 hI (by kernel_rfl) ?_)
                    intro b99 w hI
                    have hC := hI
                    have hC := hC.drop
                    have hC := hC.drop
                    refine ⟨fun _ _ => hC, ?_⟩
                    obtain ⟨⟨y101, y102, y103, y104, y105, y106, y110, y112⟩, hc100, h2⟩ := bindS h2
                    try dsimp only at h2
                    refine GmT.o (i := 6) (by kernel_rfl) (Does.call (d := some 65) (n := 20) (vs := [.agg ((([.int .i64 x15, .string x16, .string x17, .bool x18, .int .i64 x19, .slice A21 x20.length cp22] : List Value))).toArray, .agg (c_ApiOp (gt a1 x14)).toArray, .int .i64 y41]) (by kernel_rfl) en20 (c20 w0 w _ _ hI (hT.mono hle12) x15 x16 x17 x18 x19 A21 cp22 x20 hr23 (gt a1 x14) y41 _ hc100) ?_)
                    rintro e w ⟨A107, cp108, Z113, hle114, rfl, hr109, hl111, hI⟩
                    refine ⟨_, rfl, ?_⟩
                    have hC := hI
                    have hC := hC.drop
                    have hC := hC.drop
                    have hC := hC.weaken hle114
                    refine ⟨fun _ _ => hC, ?_⟩
                    refine GmT.p' 7 58 (.tuple #[.agg ((([.int .i64 y101, .string y102, .string y103, .bool y104, .int .i64 y105, .slice A107 y106.length cp108] : List Value))).toArray, .agg (c_ApiEvent y110).toArray, .int .i64 y112]) (by kernel_rfl) (by kernel_rfl) ?_
                    refine GmT.p' 8 66 (.agg ((([.int .i64 y101, .string y102, .string y103, .bool y104, .int .i64 y105, .slice A107 y106.length cp108] : List Value))).toArray) (by kernel_rfl) (by kernel_rfl) ?_
                    refine GmT.p' 9 67 (.agg (c_ApiEvent y110).toArray) (by kernel_rfl) (by kernel_rfl) ?_
                    refine GmT.p' 10 68 (.int .i64 y112) (by kernel_rfl) (by kernel_rfl) ?_
                    have hI := hI.mono (pick2 _ _ _)
                    refine GmT.o (i := 13) (by kernel_rfl) (Does.storeLit (T := 24) (b := b82) (o := 0) (v := .agg ((([.int .i64 y101, .string y102, .string y103, .bool y104, .int .i64 y105, .slice A107 y106.length cp108] : List Value))).toArray) (l := (([.int .i64 0, .string (⟨#[]⟩ : ByteArray), .string (⟨#[]⟩ : ByteArray), .bool false, .int .i64 0, .slice none 0 0] : List Value))) (vs := (([.int .i64 y101, .string y102, .string y103, .bool y104, .int .i64 y105, .slice A107 y106.length cp108] : List Value))) (L' := (([.int .i64 y101, .string y102, .string y103, .bool y104, .int .i64 y105, .slice A107 y106.length cp108] : List Value))) (by kernel_rfl) ty24 hI (by kernel_rfl) (by kernel_rfl) (by kernel_rfl) (by kernel_rfl) (by kernel_rfl) ?_)
                    intro w hI
                    refine ⟨fun h => absurd h (by decide), ?_⟩
                    have hI := hI.mono (pick2 _ _ _)
                    refine GmT.o (i := 14) (by kernel_rfl) (Does.storeLit (T := 39) (b := b99) (o := 0) (v := .agg (c_ApiEvent y110).toArray) (l := c_ApiEvent (ApiEvent.mk 0 0 (⟨#[]⟩ : ByteArray) 0 0 (List.replicate 32 (0 : Int)))) (vs := c_ApiEvent y110) (L' := c_ApiEvent y110) (by kernel_rfl) ty39 hI (by kernel_rfl) (len_ApiEvent _ hl111) (by rw [(len_ApiEvent _ (by kernel_rfl))]; kernel_rfl) (ones_app _ _ (by kernel_rfl) (ones_cA _)) (lset_all _ _ (Eq.trans (len_ApiEvent _ hl111) (Eq.symm (len_ApiEvent _ (by kernel_rfl))))) ?_)
                    intro w hI
                    refine ⟨fun h => absurd h (by decide), ?_⟩
                    refine GmT.p' 15 14 (.int .i64 y112) (by kernel_rfl) (by kernel_rfl) ?_
                    refine GmT.done (by kernel_rfl) ?_
                    have hI := hI.drop
                    have e := someS h2
                    subst e
                    exact Qn.thenJ fun a ha => ⟨y101, y102, y103, y104, y105, y106, y112, Z113, b82, A107, cp108, rfl, ha.keep [1, 2, 3, 7, 8, 9, 11, 12, 14] (by kernel_rfl), hI, hle114, hr109⟩
                ·
                  rw [lst_set]
                  refine (Does.allocL (d := 13) (T := 39) (c_ApiEvent (ApiEvent.mk 0 0 (⟨#[]⟩ : ByteArray) 0 0 (List.replicate 32 (0 : Int)))) (by kernel_rfl) ty39 hI (by kernel_rfl) ?_)
                  intro b115 w hI
                  have hC := hI
                  have hC := hC.drop
                  refine ⟨fun _ _ => hC, ?_⟩
                  refine GmT.several [6, 11] (by kernel_rfl) rfl ?_
                  intro i hi; simp only [List.mem_cons, List.not_mem_nil, or_false] at hi; rcases hi with rfl | rfl
                  ·
                    obtain ⟨⟨y117, y118, y119, y120, y121, y122, y126, y128⟩, hc116, h2⟩ := bindS h2
                    try dsimp only at h2
                    rw [lst_set]
                    refine (Does.call (d := some 65) (n := 20) (vs := [.agg ((([.int .i64 x15, .string x16, .string x17, .bool x18, .int .i64 x19, .slice A21 x20.length cp22] : List Value))).toArray, .agg (c_ApiOp (gt a1 x14)).toArray, .int .i64 y41]) (by kernel_rfl) en20 (c20 w0 w _ _ hI (hT.mono hle12) x15 x16 x17 x18 x19 A21 cp22 x20 hr23 (gt a1 x14) y41 _ hc116) ?_)
                    rintro e w ⟨A123, cp124, Z129, hle130, rfl, hr125, hl127, hI⟩
                    refine ⟨_, rfl, ?_⟩
                    have hC := hI
                    have hC := hC.drop
                    have hC := hC.weaken hle130
                    refine ⟨fun _ _ => hC, ?_⟩
                    refine GmT.p' 7 58 (.tuple #[.agg ((([.int .i64 y117, .string y118, .string y119, .bool y120, .int .i64 y121, .slice A123 y122.length cp124] : List Value))).toArray, .agg (c_ApiEvent y126).toArray, .int .i64 y128]) (by kernel_rfl) (by kernel_rfl) ?_
                    refine GmT.p' 8 66 (.agg ((([.int .i64 y117, .string y118, .string y119, .bool y120, .int .i64 y121, .slice A123 y122.length cp124] : List Value))).toArray) (by kernel_rfl) (by kernel_rfl) ?_
                    refine GmT.p' 9 67 (.agg (c_ApiEvent y126).toArray) (by kernel_rfl) (by kernel_rfl) ?_
                    refine GmT.p' 10 68 (.int .i64 y128) (by kernel_rfl) (by kernel_rfl) ?_
                    refine GmT.o (i := 11) (by kernel_rfl) (Does.allocL (d := 12) (T := 24) ((([.int .i64 0, .string (⟨#[]⟩ : ByteArray), .string (⟨#[]⟩ : ByteArray), .bool false, .int .i64 0, .slice none 0 0] : List Value))) (by kernel_rfl) ty24 hI (by kernel_rfl) ?_)
                    intro b131 w hI
                    have hC := hI
                    have hC := hC.drop
                    have hC := hC.drop
                    have hC := hC.weaken hle130
                    refine ⟨fun _ _ => hC, ?_⟩
                    refine GmT.o (i := 13) (by kernel_rfl) (Does.storeLit (T := 24) (b := b131) (o := 0) (v := .agg ((([.int .i64 y117, .string y118, .string y119, .bool y120, .int .i64 y121, .slice A123 y122.length cp124] : List Value))).toArray) (l := (([.int .i64 0, .string (⟨#[]⟩ : ByteArray), .string (⟨#[]⟩ : ByteArray), .bool false, .int .i64 0, .slice none 0 0] : List Value))) (vs := (([.int .i64 y117, .string y118, .string y119, .bool y120, .int .i64 y121, .slice A123 y122.length cp124] : List Value))) (L' := (([.int .i64 y117, .string y118, .string y119, .bool y120, .int .i64 y121, .slice A123 y122.length cp124] : List Value))) (by kernel_rfl) ty24 hI (by kernel_rfl) (by kernel_rfl) (by kernel_rfl) (by kernel_rfl) (by kernel_rfl) ?_)
                    intro w hI
                    refine ⟨fun h => absurd h (by decide), ?_⟩
                    have hI := hI.mono (pick2 _ _ _)
                    refine GmT.o (i := 14) (by kernel_rfl) (Does.storeLit (T := 39) (b := b115) (o := 0) (v := .agg (c_ApiEvent y126).toArray) (l := c_ApiEvent (ApiEvent.mk 0 0 (⟨#[]⟩ : ByteArray) 0 0 (List.replicate 32 (0 : Int)))) (vs := c_ApiEvent y126) (L' := c_ApiEvent y126) (by kernel_rfl) ty39 hI (by kernel_rfl) (len_ApiEvent _ hl127) (by rw [(len_ApiEvent _ (by kernel_rfl))]; kernel_rfl) (ones_app _ _ (by kernel_rfl) (ones_cA _)) (lset_all _ _ (Eq.trans (len_ApiEvent _ hl127) (Eq.symm (len_ApiEvent _ (by kernel_rfl))))) ?_)
                    intro w hI
                    refine ⟨fun h => absurd h (by decide), ?_⟩
                    refine GmT.p' 15 14 (.int .i64 y128) (by kernel_rfl) (by kernel_rfl) ?_
                    refine GmT.done (by kernel_rfl) ?_
                    have hI := hI.drop
                    have e := someS h2
                    subst e
                    exact Qn.thenJ fun a ha => ⟨y117, y118, y119, y120, y121, y122, y128, Z129, b131, A123, cp124, rfl, ha.keep [1, 2, 3, 7, 8, 9, 11, 12, 14] (by kernel_rfl), hI, hle130, hr125⟩
                  ·
                    rw [lst_set]
                    refine (Does.allocL (d := 12) (T := 24) ((([.int .i64 0, .string (⟨#[]⟩ : ByteArray), .string (⟨#[]⟩ : ByteArray), .bool false, .int .i64 0, .slice none 0 0] : List Value))) (by kernel_rfl) ty24 hI (by kernel_rfl) ?_)
                    intro b132 w hI
                    have hC := hI
                    have hC := hC.drop
                    have hC := hC.drop
                    refine ⟨fun _ _ => hC, ?_⟩
                    obtain ⟨⟨y134, y135, y136, y137, y138, y139, y143, y145⟩, hc133, h2⟩ := bindS h2
                    try dsimp only at h2
                    refine GmT.o (i := 6) (by kernel_rfl) (Does.call (d := some 65) (n := 20) (vs := [.agg ((([.int .i64 x15, .string x16, .string x17, .bool x18, .int .i64 x19, .slice A21 x20.length cp22] : List Value))).toArray, .agg (c_ApiOp (gt a1 x14)).toArray, .int .i64 y41]) (by kernel_rfl) en20 (c20 w0 w _ _ hI (hT.mono hle12) x15 x16 x17 x18 x19 A21 cp22 x20 hr23 (gt a1 x14) y41 _ hc133) ?_)
                    rintro e w ⟨A140, cp141, Z146, hle147, rfl, hr142, hl144, hI⟩
                    refine ⟨_, rfl, ?_⟩
                    have hC := hI
                    have hC := hC.drop
                    have hC := hC.drop
                    have hC := hC.weaken hle147
                    refine ⟨fun _ _ => hC, ?_⟩
                    refine GmT.p' 7 58 (.tuple #[.agg ((([.int .i64 y134, .string y135, .string y136, .bool y137, .int .i64 y138, .slice A140 y139.length cp141] : List Value))).toArray, .agg (c_ApiEvent y143).toArray, .int .i64 y145]) (by kernel_rfl) (by kernel_rfl) ?_
                    refine GmT.p' 8 66 (.agg ((([.int .i64 y134, .string y135, .string y136, .bool y137, .int .i64 y138, .slice A140 y139.length cp141] : List Value))).toArray) (by kernel_rfl) (by kernel_rfl) ?_
                    refine GmT.p' 9 67 (.agg (c_ApiEvent y143).toArray) (by kernel_rfl) (by kernel_rfl) ?_
                    refine GmT.p' 10 68 (.int .i64 y145) (by kernel_rfl) (by kernel_rfl) ?_
                    refine GmT.o (i := 13) (by kernel_rfl) (Does.storeLit (T := 24) (b := b132) (o := 0) (v := .agg ((([.int .i64 y134, .string y135, .string y136, .bool y137, .int .i64 y138, .slice A140 y139.length cp141] : List Value))).toArray) (l := (([.int .i64 0, .string (⟨#[]⟩ : ByteArray), .string (⟨#[]⟩ : ByteArray), .bool false, .int .i64 0, .slice none 0 0] : List Value))) (vs := (([.int .i64 y134, .string y135, .string y136, .bool y137, .int .i64 y138, .slice A140 y139.length cp141] : List Value))) (L' := (([.int .i64 y134, .string y135, .string y136, .bool y137, .int .i64 y138, .slice A140 y139.length cp141] : List Value))) (by kernel_rfl) ty24 hI (by kernel_rfl) (by kernel_rfl) (by kernel_rfl) (by kernel_rfl) (by kernel_rfl) ?_)
                    intro w hI
                    refine ⟨fun h => absurd h (by decide), ?_⟩
                    have hI := hI.mono (pick2 _ _ _)
                    refine GmT.o (i := 14) (by kernel_rfl) (Does.storeLit (T := 39) (b := b115) (o := 0) (v := .agg (c_ApiEvent y143).toArray) (l := c_ApiEvent (ApiEvent.mk 0 0 (⟨#[]⟩ : ByteArray) 0 0 (List.replicate 32 (0 : Int)))) (vs := c_ApiEvent y143) (L' := c_ApiEvent y143) (by kernel_rfl) ty39 hI (by kernel_rfl) (len_ApiEvent _ hl144) (by rw [(len_ApiEvent _ (by kernel_rfl))]; kernel_rfl) (ones_app _ _ (by kernel_rfl) (ones_cA _)) (lset_all _ _ (Eq.trans (len_ApiEvent _ hl144) (Eq.symm (len_ApiEvent _ (by kernel_rfl))))) ?_)
                    intro w hI
                    refine ⟨fun h => absurd h (by decide), ?_⟩
                    refine GmT.p' 15 14 (.int .i64 y145) (by kernel_rfl) (by kernel_rfl) ?_
                    refine GmT.done (by kernel_rfl) ?_
                    have hI := hI.drop
                    have e := someS h2
                    subst e
                    exact Qn.thenJ fun a ha => ⟨y134, y135, y136, y137, y138, y139, y145, Z146, b132, A140, cp141, rfl, ha.keep [1, 2, 3, 7, 8, 9, 11, 12, 14] (by kernel_rfl), hI, hle147, hr142⟩
              ·
                rintro a w ⟨x47, x48, x49, x50, x51, x52, x56, Z44, b46, A53, cp54, rfl, ha, hI, hle45, hr55⟩
                try dsimp only at h1
                refine CodT.of ?_ ha
                refine CodT.seq ?_
                obtain ⟨r2, h2, h1⟩ := bindS h1
                refine CodT.meet (fun a w => ∃ (x148 : Bool), x148 = r2 ∧ Fr 137 [(1, .slice A_a1 a1.length c_a1), (2, .slice A_a2 a2.length c_a2), (3, .pointer (some ⟨b1, 0, none⟩)), (7, .bool y3), (8, .int .i64 y41), (9, .int .i64 x14), (11, .bool y43), (12, .pointer (some ⟨b46, 0, none⟩)), (14, .int .i64 x56), (102, .bool x148)] a ∧ Inv w0 Z44 w (star (pt b46 (.cells ((([.int .i64 x47, .string x48, .string x49, .bool x50, .int .i64 x51, .slice A53 x52.length cp54] : List Value))).toArray 24 (0, 0))) (star (pt b1 (.cells ((([.int .i64 x15, .string x16, .string x17, .bool x18, .int .i64 x19, .slice A21 x20.length cp22] : List Value))).toArray 24 (0, 0))) A))) ?_ ?_
                ·
                  refine CodT.regionL [0, 1, 2, 3, 4, 5, 6, 7, 8, 9, 10, 11, 12, 13, 14, 15, 16, 17, 18, 19, 20, 21, 22, 23, 24, 25, 26, 27, 28, 29, 30, 31, 32, 33] (by kernel_rfl) ?_
                  refine OpsT.pures (r := [2, 3, 4, 5, 6, 7, 8, 9, 10, 11, 12, 13, 14, 15, 16, 17, 18, 19, 20, 21, 22, 23, 24, 25, 26, 27, 28, 29, 30, 31, 32, 33]) [0, 1] [1, 2, 3, 7, 8, 9, 11, 12, 14, 69, 70] (S' := [(1, .slice A_a1 a1.length c_a1), (2, .slice A_a2 a2.length c_a2), (3, .pointer (some ⟨b1, 0, none⟩)), (7, .bool y3), (8, .int .i64 y41), (9, .int .i64 x14), (11, .bool y43), (12, .pointer (some ⟨b46, 0, none⟩)), (14, .int .i64 x56), (69, .slice A_a1 a1.length c_a1), (70, .int .i64 x14)]) (by kernel_rfl) ?_
                  obtain ⟨hg149, h2⟩ := guardS h2
                  obtain ⟨g150, o154, hA151, hr152, hl153⟩ := RdS.get (hr_a1.mono (Hp.le_trans hle12 hle45)) hg149.1 hg149.2
                  refine OpsT.cons (Does.yi (Yl.indexSlice (d := 71) (T := 49) (cc := c_a1) (k := .i64) (j := x14) (g := g150) (o := o154) (by kernel_rfl) Go.Proofs.Tryd.underlying49 ty43 hA151 hg149.1 hg149.2) hI ?_)
                  refine OpsT.pures (r := [4, 5, 6, 7, 8, 9, 10, 11, 12, 13, 14, 15, 16, 17, 18, 19, 20, 21, 22, 23, 24, 25, 26, 27, 28, 29, 30, 31, 32, 33]) [3] [1, 2, 3, 7, 8, 9, 11, 12, 14, 72] (S' := [(1, .slice A_a1 a1.length c_a1), (2, .slice A_a2 a2.length c_a2), (3, .pointer (some ⟨b1, 0, none⟩)), (7, .bool y3), (8, .int .i64 y41), (9, .int .i64 x14), (11, .bool y43), (12, .pointer (some ⟨b46, 0, none⟩)), (14, .int .i64 x56), (72, .pointer (some ⟨g150, o154 + x14.toNat * 6, none⟩))]) (by kernel_rfl) ?_
                  refine OpsT.cons (Does.yi (Yl.load (d := 73) (T := 35) (v := .int .i64 ((gt a1 x14).Kind)) (by kernel_rfl) (ldR ty35 (v := .int .i64 ((gt a1 x14).Kind)) 0 (fun w hC => hr152 w0 w _ hC) (by kernel_rfl))) hI ?_)
                  refine OpsT.pures (r := [7, 8, 9, 10, 11, 12, 13, 14, 15, 16, 17, 18, 19, 20, 21, 22, 23, 24, 25, 26, 27, 28, 29, 30, 31, 32, 33]) [5, 6] [1, 2, 3, 7, 8, 9, 11, 12, 14, 75] (S' := [(1, .slice A_a1 a1.length c_a1), (2, .slice A_a2 a2.length c_a2), (3, .pointer (some ⟨b1, 0, none⟩)), (7, .bool y3), (8, .int .i64 y41), (9, .int .i64 x14), (11, .bool y43), (12, .pointer (some ⟨b46, 0, none⟩)), (14, .int .i64 x56), (75, .bool (((gt a1 x14).Kind) == 1))]) (by kernel_rfl) ?_
                  by_cases hb155 : (((gt a1 x14).Kind) == 1) = true
                  · rw [if_pos hb155] at h2
                    refine OpsT.keep [1, 2, 3, 7, 8, 9, 11, 12, 14, 75] (S' := [(1, .slice A_a1 a1.length c_a1), (2, .slice A_a2 a2.length c_a2), (3, .pointer (some ⟨b1, 0, none⟩)), (7, .bool y3), (8, .int .i64 y41), (9, .int .i64 x14), (11, .bool y43), (12, .pointer (some ⟨b46, 0, none⟩)), (14, .int .i64 x56), (75, .bool true)]) (by (try simp only [hb155]); kernel_rfl) ?_
                    refine OpsT.pures (r := [11, 12, 13, 14, 15, 16, 17, 18, 19, 20, 21, 22, 23, 24, 25, 26, 27, 28, 29, 30, 31, 32, 33]) [7, 8, 9, 10] [1, 2, 3, 7, 8, 9, 11, 12, 14, 79] (S' := [(1, .slice A_a1 a1.length c_a1), (2, .slice A_a2 a2.length c_a2), (3, .pointer (some ⟨b1, 0, none⟩)), (7, .bool y3), (8, .int .i64 y41), (9, .int .i64 x14), (11, .bool y43), (12, .pointer (some ⟨b46, 0, none⟩)), (14, .int .i64 x56), (79, .bool (x56 != 5))]) (by kernel_rfl) ?_
                    by_cases hb156 : (x56 != 5) = true
                    · rw [if_pos hb156] at h2
                      refine OpsT.keep [1, 2, 3, 7, 8, 9, 11, 12, 14, 79] (S' := [(1, .slice A_a1 a1.length c_a1), (2, .slice A_a2 a2.length c_a2), (3, .pointer (some ⟨b1, 0, none⟩)), (7, .bool y3), (8, .int .i64 y41), (9, .int .i64 x14), (11, .bool y43), (12, .pointer (some ⟨b46, 0, none⟩)), (14, .int .i64 x56), (79, .bool true)]) (by (try simp only [hb156]); kernel_rfl) ?_
                      refine OpsT.pures (r := []) [11, 12, 13, 14, 15, 16, 17, 18, 19, 20, 21, 22, 23, 24, 25, 26, 27, 28, 29, 30, 31, 32, 33] [1, 2, 3, 7, 8, 9, 11, 12, 14, 102] (S' := [(1, .slice A_a1 a1.length c_a1), (2, .slice A_a2 a2.length c_a2), (3, .pointer (some ⟨b1, 0, none⟩)), (7, .bool y3), (8, .int .i64 y41), (9, .int .i64 x14), (11, .bool y43), (12, .pointer (some ⟨b46, 0, none⟩)), (14, .int .i64 x56), (102, .bool true)]) (by kernel_rfl) ?_
                      refine OpsT.done ?_
                      have e := someS h2
                      subst e
                      exact Qn.thenJ fun a ha => ⟨true, rfl, ha.keep [1, 2, 3, 7, 8, 9, 11, 12, 14, 102] (by kernel_rfl), hI⟩
                    · rw [if_neg hb156] at h2
                      have hb156 : (x56 != 5) = false := by simpa using hb156
                      refine OpsT.keep [1, 2, 3, 7, 8, 9, 11, 12, 14, 79] (S' := [(1, .slice A_a1 a1.length c_a1), (2, .slice A_a2 a2.length c_a2), (3, .pointer (some ⟨b1, 0, none⟩)), (7, .bool y3), (8, .int .i64 y41), (9, .int .i64 x14), (11, .bool y43), (12, .pointer (some ⟨b46, 0, none⟩)), (14, .int .i64 x56), (79, .bool false)]) (by (try simp only [hb156]); kernel_rfl) ?_
                      refine OpsT.pures (r := [13, 14, 15, 16, 17, 18, 19, 20, 21, 22, 23, 24, 25, 26, 27, 28, 29, 30, 31, 32, 33]) [11, 12] [1, 2, 3, 7, 8, 9, 11, 12, 14, 79, 80, 81] (S' := [(1, .slice A_a1 a1.length c_a1), (2, .slice A_a2 a2.length c_a2), (3, .pointer (some ⟨b1, 0, none⟩)), (7, .bool y3), (8, .int .i64 y41), (9, .int .i64 x14), (11, .bool y43), (12, .pointer (some ⟨b46, 0, none⟩)), (14, .int .i64 x56), (79, .bool false), (80, .slice A_a1 a1.length c_a1), (81, .int .i64 x14)]) (by kernel_rfl) ?_
                      obtain ⟨hg157, h2⟩ := guardS h2
                      obtain ⟨g158, o162, hA159, hr160, hl161⟩ := RdS.get (hr_a1.mono (Hp.le_trans hle12 hle45)) hg157.1 hg157.2
                      refine OpsT.cons (Does.yi (Yl.indexSlice (d := 82) (T := 49) (cc := c_a1) (k := .i64) (j := x14) (g := g158) (o := o162) (by kernel_rfl) Go.Proofs.Tryd.underlying49 ty43 hA159 hg157.1 hg157.2) hI ?_)
                      refine OpsT.pures (r := [15, 16, 17, 18, 19, 20, 21, 22, 23, 24, 25, 26, 27, 28, 29, 30, 31, 32, 33]) [14] [1, 2, 3, 7, 8, 9, 11, 12, 14, 79, 83] (S' := [(1, .slice A_a1 a1.length c_a1), (2, .slice A_a2 a2.length c_a2), (3, .pointer (some ⟨b1, 0, none⟩)), (7, .bool y3), (8, .int .i64 y41), (9, .int .i64 x14), (11, .bool y43), (12, .pointer (some ⟨b46, 0, none⟩)), (14, .int .i64 x56), (79, .bool false), (83, .pointer (some ⟨g158, o162 + x14.toNat * 6, none⟩))]) (by kernel_rfl) ?_
                      refine OpsT.cons (Does.yi (Yl.load (d := 84) (T := 35) (v := .int .i64 ((gt a1 x14).Kind)) (by kernel_rfl) (ldR ty35 (v := .int .i64 ((gt a1 x14).Kind)) 0 (fun w hC => hr160 w0 w _ hC) (by kernel_rfl))) hI ?_)
                      refine OpsT.pures (r := [18, 19, 20, 21, 22, 23, 24, 25, 26, 27, 28, 29, 30, 31, 32, 33]) [16, 17] [1, 2, 3, 7, 8, 9, 11, 12, 14, 79, 86] (S' := [(1, .slice A_a1 a1.length c_a1), (2, .slice A_a2 a2.length c_a2), (3, .pointer (some ⟨b1, 0, none⟩)), (7, .bool y3), (8, .int .i64 y41), (9, .int .i64 x14), (11, .bool y43), (12, .pointer (some ⟨b46, 0, none⟩)), (14, .int .i64 x56), (79, .bool false), (86, .bool (((gt a1 x14).Kind) == 2))]) (by kernel_rfl) ?_
                      by_cases hb163 : (((gt a1 x14).Kind) == 2) = true
                      · rw [if_pos hb163] at h2
                        refine OpsT.keep [1, 2, 3, 7, 8, 9, 11, 12, 14, 79, 86] (S' := [(1, .slice A_a1 a1.length c_a1), (2, .slice A_a2 a2.length c_a2), (3, .pointer (some ⟨b1, 0, none⟩)), (7, .bool y3), (8, .int .i64 y41), (9, .int .i64 x14), (11, .bool y43), (12, .pointer (some ⟨b46, 0, none⟩)), (14, .int .i64 x56), (79, .bool false), (86, .bool true)]) (by (try simp only [hb163]); kernel_rfl) ?_
                        refine OpsT.pures (r := [23, 24, 25, 26, 27, 28, 29, 30, 31, 32, 33]) [18, 19, 20, 21, 22] [1, 2, 3, 7, 8, 9, 11, 12, 14, 91] (S' := [(1, .slice A_a1 a1.length c_a1), (2, .slice A_a2 a2.length c_a2), (3, .pointer (some ⟨b1, 0, none⟩)), (7, .bool y3), (8, .int .i64 y41), (9, .int .i64 x14), (11, .bool y43), (12, .pointer (some ⟨b46, 0, none⟩)), (14, .int .i64 x56), (91, .bool (x56 != 5))]) (by kernel_rfl) ?_
                        by_cases hb164 : (x56 != 5) = true
                        · rw [if_pos hb164] at h2
                          refine OpsT.keep [1, 2, 3, 7, 8, 9, 11, 12, 14, 91] (S' := [(1, .slice A_a1 a1.length c_a1), (2, .slice A_a2 a2.length c_a2), (3, .pointer (some ⟨b1, 0, none⟩)), (7, .bool y3), (8, .int .i64 y41), (9, .int .i64 x14), (11, .bool y43), (12, .pointer (some ⟨b46, 0, none⟩)), (14, .int .i64 x56), (91, .bool true)]) (by (try simp only [hb164]); kernel_rfl) ?_
                          refine OpsT.pures (r := []) [23, 24, 25, 26, 27, 28, 29, 30, 31, 32, 33] [1, 2, 3, 7, 8, 9, 11, 12, 14, 102] (S' := [(1, .slice A_a1 a1.length c_a1), (2, .slice A_a2 a2.length c_a2), (3, .pointer (some ⟨b1, 0, none⟩)), (7, .bool y3), (8, .int .i64 y41), (9, .int .i64 x14), (11, .bool y43), (12, .pointer (some ⟨b46, 0, none⟩)), (14, .int .i64 x56), (102, .bool true)]) (by kernel_rfl) ?_
                          refine OpsT.done ?_
                          have e := someS h2
                          subst e
                          exact Qn.thenJ fun a ha => ⟨true, rfl, ha.keep [1, 2, 3, 7, 8, 9, 11, 12, 14, 102] (by kernel_rfl), hI⟩
                        · rw [if_neg hb164] at h2
                          have hb164 : (x56 != 5) = false := by simpa using hb164
                          refine OpsT.keep [1, 2, 3, 7, 8, 9, 11, 12, 14, 91] (S' := [(1, .slice A_a1 a1.length c_a1), (2, .slice A_a2 a2.length c_a2), (3, .pointer (some ⟨b1, 0, none⟩)), (7, .bool y3), (8, .int .i64 y41), (9, .int .i64 x14), (11, .bool y43), (12, .pointer (some ⟨b46, 0, none⟩)), (14, .int .i64 x56), (91, .bool false)]) (by (try simp only [hb164]); kernel_rfl) ?_
                          refine OpsT.pures (r := [25, 26, 27, 28, 29, 30, 31, 32, 33]) [23, 24] [1, 2, 3, 7, 8, 9, 11, 12, 14, 91, 92, 93] (S' := [(1, .slice A_a1 a1.length c_a1), (2, .slice A_a2 a2.length c_a2), (3, .pointer (some ⟨b1, 0, none⟩)), (7, .bool y3), (8, .int .i64 y41), (9, .int .i64 x14), (11, .bool y43), (12, .pointer (some ⟨b46, 0, none⟩)), (14, .int .i64 x56), (91, .bool false), (92, .slice A_a1 a1.length c_a1), (93, .int .i64 x14)]) (by kernel_rfl) ?_
                          obtain ⟨hg165, h2⟩ := guardS h2
                          obtain ⟨g166, o170, hA167, hr168, hl169⟩ := RdS.get (hr_a1.mono (Hp.le_trans hle12 hle45)) hg165.1 hg165.2
                          refine OpsT.cons (Does.yi (Yl.indexSlice (d := 94) (T := 49) (cc := c_a1) (k := .i64) (j := x14) (g := g166) (o := o170) (by kernel_rfl) Go.Proofs.Tryd.underlying49 ty43 hA167 hg165.1 hg165.2) hI ?_)
                          refine OpsT.pures (r := [27, 28, 29, 30, 31, 32, 33]) [26] [1, 2, 3, 7, 8, 9, 11, 12, 14, 91, 95] (S' := [(1, .slice A_a1 a1.length c_a1), (2, .slice A_a2 a2.length c_a2), (3, .pointer (some ⟨b1, 0, none⟩)), (7, .bool y3), (8, .int .i64 y41), (9, .int .i64 x14), (11, .bool y43), (12, .pointer (some ⟨b46, 0, none⟩)), (14, .int .i64 x56), (91, .bool false), (95, .pointer (some ⟨g166, o170 + x14.toNat * 6, none⟩))]) (by kernel_rfl) ?_
                          refine OpsT.cons (Does.yi (Yl.load (d := 96) (T := 35) (v := .int .i64 ((gt a1 x14).Kind)) (by kernel_rfl) (ldR ty35 (v := .int .i64 ((gt a1 x14).Kind)) 0 (fun w hC => hr168 w0 w _ hC) (by kernel_rfl))) hI ?_)
                          refine OpsT.pures (r := [30, 31, 32, 33]) [28, 29] [1, 2, 3, 7, 8, 9, 11, 12, 14, 91, 98] (S' := [(1, .slice A_a1 a1.length c_a1), (2, .slice A_a2 a2.length c_a2), (3, .pointer (some ⟨b1, 0, none⟩)), (7, .bool y3), (8, .int .i64 y41), (9, .int .i64 x14), (11, .bool y43), (12, .pointer (some ⟨b46, 0, none⟩)), (14, .int .i64 x56), (91, .bool false), (98, .bool (((gt a1 x14).Kind) == 0))]) (by kernel_rfl) ?_
                          by_cases hb171 : (((gt a1 x14).Kind) == 0) = true
                          · rw [if_pos hb171] at h2
                            refine OpsT.keep [1, 2, 3, 7, 8, 9, 11, 12, 14, 91, 98] (S' := [(1, .slice A_a1 a1.length c_a1), (2, .slice A_a2 a2.length c_a2), (3, .pointer (some ⟨b1, 0, none⟩)), (7, .bool y3), (8, .int .i64 y41), (9, .int .i64 x14), (11, .bool y43), (12, .pointer (some ⟨b46, 0, none⟩)), (14, .int .i64 x56), (91, .bool false), (98, .bool true)]) (by (try simp only [hb171]); kernel_rfl) ?_
                            refine OpsT.pures (r := []) [30, 31, 32, 33] [1, 2, 3, 7, 8, 9, 11, 12, 14, 102] (S' := [(1, .slice A_a1 a1.length c_a1), (2, .slice A_a2 a2.length c_a2), (3, .pointer (some ⟨b1, 0, none⟩)), (7, .bool y3), (8, .int .i64 y41), (9, .int .i64 x14), (11, .bool y43), (12, .pointer (some ⟨b46, 0, none⟩)), (14, .int .i64 x56), (102, .bool (x56 != 4))]) (by kernel_rfl) ?_
                            refine OpsT.done ?_
                            have e := someS h2
                            subst e
                            exact Qn.thenJ fun a ha => ⟨x56 != 4, rfl, ha.keep [1, 2, 3, 7, 8, 9, 11, 12, 14, 102] (by kernel_rfl), hI⟩
                          · rw [if_neg hb171] at h2
                            have hb171 : (((gt a1 x14).Kind) == 0) = false := by simpa using hb171
                            refine OpsT.keep [1, 2, 3, 7, 8, 9, 11, 12, 14, 91, 98] (S' := [(1, .slice A_a1 a1.length c_a1), (2, .slice A_a2 a2.length c_a2), (3, .pointer (some ⟨b1, 0, none⟩)), (7, .bool y3), (8, .int .i64 y41), (9, .int .i64 x14), (11, .bool y43), (12, .pointer (some ⟨b46, 0, none⟩)), (14, .int .i64 x56), (91, .bool false), (98, .bool false)]) (by (try simp only [hb171]); kernel_rfl) ?_
                            refine OpsT.pures (r := []) [30, 31, 32, 33] [1, 2, 3, 7, 8, 9, 11, 12, 14, 102] (S' := [(1, .slice A_a1 a1.length c_a1), (2, .slice A_a2 a2.length c_a2), (3, .pointer (some ⟨b1, 0, none⟩)), (7, .bool y3), (8, .int .i64 y41), (9, .int .i64 x14), (11, .bool y43), (12, .pointer (some ⟨b46, 0, none⟩)), (14, .int .i64 x56), (102, .bool false)]) (by kernel_rfl) ?_
                            refine OpsT.done ?_
                            have e := someS h2
                            subst e
                            exact Qn.thenJ fun a ha => ⟨false, rfl, ha.keep [1, 2, 3, 7, 8, 9, 11, 12, 14, 102] (by kernel_rfl), hI⟩
                      · rw [if_neg hb163] at h2
                        have hb163 : (((gt a1 x14).Kind) == 2) = false := by simpa using hb163
                        refine OpsT.keep [1, 2, 3, 7, 8, 9, 11, 12, 14, 79, 86] (S' := [(1, .slice A_a1 a1.length c_a1), (2, .slice A_a2 a2.length c_a2), (3, .pointer (some ⟨b1, 0, none⟩)), (7, .bool y3), (8, .int .i64 y41), (9, .int .i64 x14), (11, .bool y43), (12, .pointer (some ⟨b46, 0, none⟩)), (14, .int .i64 x56), (79, .bool false), (86, .bool false)]) (by (try simp only [hb163]); kernel_rfl) ?_
                        refine OpsT.pures (r := [25, 26, 27, 28, 29, 30, 31, 32, 33]) [18, 19, 20, 21, 22, 23, 24] [1, 2, 3, 7, 8, 9, 11, 12, 14, 91, 92, 93] (S' := [(1, .slice A_a1 a1.length c_a1), (2, .slice A_a2 a2.length c_a2), (3, .pointer (some ⟨b1, 0, none⟩)), (7, .bool y3), (8, .int .i64 y41), (9, .int .i64 x14), (11, .bool y43), (12, .pointer (some ⟨b46, 0, none⟩)), (14, .int .i64 x56), (91, .bool false), (92, .slice A_a1 a1.length c_a1), (93, .int .i64 x14)]) (by kernel_rfl) ?_
                        obtain ⟨hg172, h2⟩ := guardS h2
                        obtain ⟨g173, o177, hA174, hr175, hl176⟩ := RdS.get (hr_a1.mono (Hp.le_trans hle12 hle45)) hg172.1 hg172.2
                        refine OpsT.cons (Does.yi (Yl.indexSlice (d := 94) (T := 49) (cc := c_a1) (k := .i64) (j := x14) (g := g173) (o := o177) (by kernel_rfl) Go.Proofs.Tryd.underlying49 ty43 hA174 hg172.1 hg172.2) hI ?_)
                        refine OpsT.pures (r := [27, 28, 29, 30, 31, 32, 33]) [26] [1, 2, 3, 7, 8, 9, 11, 12, 14, 91, 95] (S' := [(1, .slice A_a1 a1.length c_a1), (2, .slice A_a2 a2.length c_a2), (3, .pointer (some ⟨b1, 0, none⟩)), (7, .bool y3), (8, .int .i64 y41), (9, .int .i64 x14), (11, .bool y43), (12, .pointer (some ⟨b46, 0, none⟩)), (14, .int .i64 x56), (91, .bool false), (95, .pointer (some ⟨g173, o177 + x14.toNat * 6, none⟩))]) (by kernel_rfl) ?_
                        refine OpsT.cons (Does.yi (Yl.load (d := 96) (T := 35) (v := .int .i64 ((gt a1 x14).Kind)) (by kernel_rfl) (ldR ty35 (v := .int .i64 ((gt a1 x14).Kind)) 0 (fun w hC => hr175 w0 w _ hC) (by kernel_rfl))) hI ?_)
                        refine OpsT.pures (r := [30, 31, 32, 33]) [28, 29] [1, 2, 3, 7, 8, 9, 11, 12, 14, 91, 98] (S' := [(1, .slice A_a1 a1.length c_a1), (2, .slice A_a2 a2.length c_a2), (3, .pointer (some ⟨b1, 0, none⟩)), (7, .bool y3), (8, .int .i64 y41), (9, .int .i64 x14), (11, .bool y43), (12, .pointer (some ⟨b46, 0, none⟩)), (14, .int .i64 x56), (91, .bool false), (98, .bool (((gt a1 x14).Kind) == 0))]) (by kernel_rfl) ?_
                        by_cases hb178 : (((gt a1 x14).Kind) == 0) = true
                        · rw [if_pos hb178] at h2
                          refine OpsT.keep [1, 2, 3, 7, 8, 9, 11, 12, 14, 91, 98] (S' := [(1, .slice A_a1 a1.length c_a1), (2, .slice A_a2 a2.length c_a2), (3, .pointer (some ⟨b1, 0, none⟩)), (7, .bool y3), (8, .int .i64 y41), (9, .int .i64 x14), (11, .bool y43), (12, .pointer (some ⟨b46, 0, none⟩)), (14, .int .i64 x56), (91, .bool false), (98, .bool true)]) (by (try simp only [hb178]); kernel_rfl) ?_
                          refine OpsT.pures (r := []) [30, 31, 32, 33] [1, 2, 3, 7, 8, 9, 11, 12, 14, 102] (S' := [(1, .slice A_a1 a1.length c_a1), (2, .slice A_a2 a2.length c_a2), (3, .pointer (some ⟨b1, 0, none⟩)), (7, .bool y3), (8, .int .i64 y41), (9, .int .i64 x14), (11, .bool y43), (12, .pointer (some ⟨b46, 0, none⟩)), (14, .int .i64 x56), (102, .bool (x56 != 4))]) (by kernel_rfl) ?_
                          refine OpsT.done ?_
                          have e := someS h2
                          subst e
                          exact Qn.thenJ fun a ha => ⟨x56 != 4, rfl, ha.keep [1, 2, 3, 7, 8, 9, 11, 12, 14, 102] (by kernel_rfl), hI⟩
                        · rw [if_neg hb178] at h2
                          have hb178 : (((gt a1 x14).Kind) == 0) = false := by simpa using hb178
                          refine OpsT.keep [1, 2, 3, 7, 8, 9, 11, 12, 14, 91, 98] (S' := [(1, .slice A_a1 a1.length c_a1), (2, .slice A_a2 a2.length c_a2), (3, .pointer (some ⟨b1, 0, none⟩)), (7, .bool y3), (8, .int .i64 y41), (9, .int .i64 x14), (11, .bool y43), (12, .pointer (some ⟨b46, 0, none⟩)), (14, .int .i64 x56), (91, .bool false), (98, .bool false)]) (by (try simp only [hb178]); kernel_rfl) ?_
                          refine OpsT.pures (r := []) [30, 31, 32, 33] [1, 2, 3, 7, 8, 9, 11, 12, 14, 102] (S' := [(1, .slice A_a1 a1.length c_a1), (2, .slice A_a2 a2.length c_a2), (3, .pointer (some ⟨b1, 0, none⟩)), (7, .bool y3), (8, .int .i64 y41), (9, .int .i64 x14), (11, .bool y43), (12, .pointer (some ⟨b46, 0, none⟩)), (14, .int .i64 x56), (102, .bool false)]) (by kernel_rfl) ?_
                          refine OpsT.done ?_
                          have e := someS h2
                          subst e
                          exact Qn.thenJ fun a ha => ⟨false, rfl, ha.keep [1, 2, 3, 7, 8, 9, 11, 12, 14, 102] (by kernel_rfl), hI⟩
                  · rw [if_neg hb155] at h2
                    have hb155 : (((gt a1 x14).Kind) == 1) = false := by simpa using hb155
                    refine OpsT.keep [1, 2, 3, 7, 8, 9, 11, 12, 14, 75] (S' := [(1, .slice A_a1 a1.length c_a1), (2, .slice A_a2 a2.length c_a2), (3, .pointer (some ⟨b1, 0, none⟩)), (7, .bool y3), (8, .int .i64 y41), (9, .int .i64 x14), (11, .bool y43), (12, .pointer (some ⟨b46, 0, none⟩)), (14, .int .i64 x56), (75, .bool false)]) (by (try simp only [hb155]); kernel_rfl) ?_
                    refine OpsT.pures (r := [13, 14, 15, 16, 17, 18, 19, 20, 21, 22, 23, 24, 25, 26, 27, 28, 29, 30, 31, 32, 33]) [7, 8, 9, 10, 11, 12] [1, 2, 3, 7, 8, 9, 11, 12, 14, 79, 80, 81] (S' := [(1, .slice A_a1 a1.length c_a1), (2, .slice A_a2 a2.length c_a2), (3, .pointer (some ⟨b1, 0, none⟩)), (7, .bool y3), (8, .int .i64 y41), (9, .int .i64 x14), (11, .bool y43), (12, .pointer (some ⟨b46, 0, none⟩)), (14, .int .i64 x56), (79, .bool false), (80, .slice A_a1 a1.length c_a1), (81, .int .i64 x14)]) (by kernel_rfl) ?_
                    obtain ⟨hg179, h2⟩ := guardS h2
                    obtain ⟨g180, o184, hA181, hr182, hl183⟩ := RdS.get (hr_a1.mono (Hp.le_trans hle12 hle45)) hg179.1 hg179.2
                    refine OpsT.cons (Does.yi (Yl.indexSlice (d := 82) (T := 49) (cc := c_a1) (k := .i64) (j := x14) (g := g180) (o := o184) (by kernel_rfl) Go.Proofs.Tryd.underlying49 ty43 hA181 hg179.1 hg179.2) hI ?_)
                    refine OpsT.pures (r := [15, 16, 17, 18, 19, 20, 21, 22, 23, 24, 25, 26, 27, 28, 29, 30, 31, 32, 33]) [14] [1, 2, 3, 7, 8, 9, 11, 12, 14, 79, 83] (S' := [(1, .slice A_a1 a1.length c_a1), (2, .slice A_a2 a2.length c_a2), (3, .pointer (some ⟨b1, 0, none⟩)), (7, .bool y3), (8, .int .i64 y41), (9, .int .i64 x14), (11, .bool y43), (12, .pointer (some ⟨b46, 0, none⟩)), (14, .int .i64 x56), (79, .bool false), (83, .pointer (some ⟨g180, o184 + x14.toNat * 6, none⟩))]) (by kernel_rfl) ?_
                    refine OpsT.cons (Does.yi (Yl.load (d := 84) (T := 35) (v := .int .i64 ((gt a1 x14).Kind)) (by kernel_rfl) (ldR ty35 (v := .int .i64 ((gt a1 x14).Kind)) 0 (fun w hC => hr182 w0 w _ hC) (by kernel_rfl))) hI ?_)
                    refine OpsT.pures (r := [18, 19, 20, 21, 22, 23, 24, 25, 26, 27, 28, 29, 30, 31, 32, 33]) [16, 17] [1, 2, 3, 7, 8, 9, 11, 12, 14, 79, 86] (S' := [(1, .slice A_a1 a1.length c_a1), (2, .slice A_a2 a2.length c_a2), (3, .pointer (some ⟨b1, 0, none⟩)), (7, .bool y3), (8, .int .i64 y41), (9, .int .i64 x14), (11, .bool y43), (12, .pointer (some ⟨b46, 0, none⟩)), (14, .int .i64 x56), (79, .bool false), (86, .bool (((gt a1 x14).Kind) == 2))]) (by kernel_rfl) ?_
                    by_cases hb185 : (((gt a1 x14).Kind) == 2) = true
                    · rw [if_pos hb185] at h2
                      refine OpsT.keep [1, 2, 3, 7, 8, 9, 11, 12, 14, 79, 86] (S' := [(1, .slice A_a1 a1.length c_a1), (2, .slice A_a2 a2.length c_a2), (3, .pointer (some ⟨b1, 0, none⟩)), (7, .bool y3), (8, .int .i64 y41), (9, .int .i64 x14), (11, .bool y43), (12, .pointer (some ⟨b46, 0, none⟩)), (14, .int .i64 x56), (79, .bool false), (86, .bool true)]) (by (try simp only [hb185]); kernel_rfl) ?_
                      refine OpsT.pures (r := [23, 24, 25, 26, 27, 28, 29, 30, 31, 32, 33]) [18, 19, 20, 21, 22] [1, 2, 3, 7, 8, 9, 11, 12, 14, 91] (S' := [(1, .slice A_a1 a1.length c_a1), (2, .slice A_a2 a2.length c_a2), (3, .pointer (some ⟨b1, 0, none⟩)), (7, .bool y3), (8, .int .i64 y41), (9, .int .i64 x14), (11, .bool y43), (12, .pointer (some ⟨b46, 0, none⟩)), (14, .int .i64 x56), (91, .bool (x56 != 5))]) (by kernel_rfl) ?_
                      by_cases hb186 : (x56 != 5) = true
                      · rw [if_pos hb186] at h2
                        refine OpsT.keep [1, 2, 3, 7, 8, 9, 11, 12, 14, 91] (S' := [(1, .slice A_a1 a1.length c_a1), (2, .slice A_a2 a2.length c_a2), (3, .pointer (some ⟨b1, 0, none⟩)), (7, .bool y3), (8, .int .i64 y41), (9, .int .i64 x14), (11, .bool y43), (12, .pointer (some ⟨b46, 0, none⟩)), (14, .int .i64 x56), (91, .bool true)]) (by (try simp only [hb186]); kernel_rfl) ?_
                        refine OpsT.pures (r := []) [23, 24, 25, 26, 27, 28, 29, 30, 31, 32, 33] [1, 2, 3, 7, 8, 9, 11, 12, 14, 102] (S' := [(1, .slice A_a1 a1.length c_a1), (2, .slice A_a2 a2.length c_a2), (3, .pointer (some ⟨b1, 0, none⟩)), (7, .bool y3), (8, .int .i64 y41), (9, .int .i64 x14), (11, .bool y43), (12, .pointer (some ⟨b46, 0, none⟩)), (14, .int .i64 x56), (102, .bool true)]) (by kernel_rfl) ?_
                        refine OpsT.done ?_
                        have e := someS h2
                        subst e
                        exact Qn.thenJ fun a ha => ⟨true, rfl, ha.keep [1, 2, 3, 7, 8, 9, 11, 12, 14, 102] (by kernel_rfl), hI⟩
                      · rw [if_neg hb186] at h2
                        have hb186 : (x56 != 5) = false := by simpa using hb186
                        refine OpsT.keep [1, 2, 3, 7, 8, 9, 11, 12, 14, 91] (S' := [(1, .slice A_a1 a1.length c_a1), (2, .slice A_a2 a2.length c_a2), (3, .pointer (some ⟨b1, 0, none⟩)), (7, .bool y3), (8, .int .i64 y41), (9, .int .i64 x14), (11, .bool y43), (12, .pointer (some ⟨b46, 0, none⟩)), (14, .int .i64 x56), (91, .bool false)]) (by (try simp only [hb186]); kernel_rfl) ?_
                        refine OpsT.pures (r := [25, 26, 27, 28, 29, 30, 31, 32, 33]) [23, 24] [1, 2, 3, 7, 8, 9, 11, 12, 14, 91, 92, 93] (S' := [(1, .slice A_a1 a1.length c_a1), (2, .slice A_a2 a2.length c_a2), (3, .pointer (some ⟨b1, 0, none⟩)), (7, .bool y3), (8, .int .i64 y41), (9, .int .i64 x14), (11, .bool y43), (12, .pointer (some ⟨b46, 0, none⟩)), (14, .int .i64 x56), (91, .bool false), (92, .slice A_a1 a1.length c_a1), (93, .int .i64 x14)]) (by kernel_rfl) ?_
                        obtain ⟨hg187, h2⟩ := guardS h2
                        obtain ⟨g188, o192, hA189, hr190, hl191⟩ := RdS.get (hr_a1.mono (Hp.le_trans hle12 hle45)) hg187.1 hg187.2
                        refine OpsT.cons (Does.yi (Yl.indexSlice (d := 94) (T := 49) (cc := c_a1) (k := .i64) (j := x14) (g := g188) (o := o192) (by kernel_rfl) Go.Proofs.Tryd.underlying49 ty43 hA189 hg187.1 hg187.2) hI ?_)
                        refine OpsT.pures (r := [27, 28, 29, 30, 31, 32, 33]) [26] [1, 2, 3, 7, 8, 9, 11, 12, 14, 91, 95] (S' := [(1, .slice A_a1 a1.length c_a1), (2, .slice A_a2 a2.length c_a2), (3, .pointer (some ⟨b1, 0, none⟩)), (7, .bool y3), (8, .int .i64 y41), (9, .int .i64 x14), (11, .bool y43), (12, .pointer (some ⟨b46, 0, none⟩)), (14, .int .i64 x56), (91, .bool false), (95, .pointer (some ⟨g188, o192 + x14.toNat * 6, none⟩))]) (by kernel_rfl) ?_
                        refine OpsT.cons (Does.yi (Yl.load (d := 96) (T := 35) (v := .int .i64 ((gt a1 x14).Kind)) (by kernel_rfl) (ldR ty35 (v := .int .i64 ((gt a1 x14).Kind)) 0 (fun w hC => hr190 w0 w _ hC) (by kernel_rfl))) hI ?_)
                        refine OpsT.pures (r := [30, 31, 32, 33]) [28, 29] [1, 2, 3, 7, 8, 9, 11, 12, 14, 91, 98] (S' := [(1, .slice A_a1 a1.length c_a1), (2, .slice A_a2 a2.length c_a2), (3, .pointer (some ⟨b1, 0, none⟩)), (7, .bool y3), (8, .int .i64 y41), (9, .int .i64 x14), (11, .bool y43), (12, .pointer (some ⟨b46, 0, none⟩)), (14, .int .i64 x56), (91, .bool false), (98, .bool (((gt a1 x14).Kind) == 0))]) (by kernel_rfl) ?_
                        by_cases hb193 : (((gt a1 x14).Kind) == 0) = true
                        · rw [if_pos hb193] at h2
                          refine OpsT.keep [1, 2, 3, 7, 8, 9, 11, 12, 14, 91, 98] (S' := [(1, .slice A_a1 a1.length c_a1), (2, .slice A_a2 a2.length c_a2), (3, .pointer (some ⟨b1, 0, none⟩)), (7, .bool y3), (8, .int .i64 y41), (9, .int .i64 x14), (11, .bool y43), (12, .pointer (some ⟨b46, 0, none⟩)), (14, .int .i64 x56), (91, .bool false), (98, .bool true)]) (by (try simp only [hb193]); kernel_rfl) ?_
                          refine OpsT.pures (r := []) [30, 31, 32, 33] [1, 2, 3, 7, 8, 9, 11, 12, 14, 102] (S' := [(1, .slice A_a1 a1.length c_a1), (2, .slice A_a2 a2.length c_a2), (3, .pointer (some ⟨b1, 0, none⟩)), (7, .bool y3), (8, .int .i64 y41), (9, .int .i64 x14), (11, .bool y43), (12, .pointer (some ⟨b46, 0, none⟩)), (14, .int .i64 x56), (102, .bool (x56 != 4))]) (by kernel_rfl) ?_
                          refine OpsT.done ?_
                          have e := someS h2
                          subst e
                          exact Qn.thenJ fun a ha => ⟨x56 != 4, rfl, ha.keep [1, 2, 3, 7, 8, 9, 11, 12, 14, 102] (by kernel_rfl), hI⟩
                        · rw [if_neg hb193] at h2
                          have hb193 : (((gt a1 x14).Kind) == 0) = false := by simpa using hb193
                          refine OpsT.keep [1, 2, 3, 7, 8, 9, 11, 12, 14, 91, 98] (S' := [(1, .slice A_a1 a1.length c_a1), (2, .slice A_a2 a2.length c_a2), (3, .pointer (some ⟨b1, 0, none⟩)), (7, .bool y3), (8, .int .i64 y41), (9, .int .i64 x14), (11, .bool y43), (12, .pointer (some ⟨b46, 0, none⟩)), (14, .int .i64 x56), (91, .bool false), (98, .bool false)]) (by (try simp only [hb193]); kernel_rfl) ?_
                          refine OpsT.pures (r := []) [30, 31, 32, 33] [1, 2, 3, 7, 8, 9, 11, 12, 14, 102] (S' := [(1, .slice A_a1 a1.length c_a1), (2, .slice A_a2 a2.length c_a2), (3, .pointer (some ⟨b1, 0, none⟩)), (7, .bool y3), (8, .int .i64 y41), (9, .int .i64 x14), (11, .bool y43), (12, .pointer (some ⟨b46, 0, none⟩)), (14, .int .i64 x56), (102, .bool false)]) (by kernel_rfl) ?_
                          refine OpsT.done ?_
                          have e := someS h2
                          subst e
                          exact Qn.thenJ fun a ha => ⟨false, rfl, ha.keep [1, 2, 3, 7, 8, 9, 11, 12, 14, 102] (by kernel_rfl), hI⟩
                    · rw [if_neg hb185] at h2
                      have hb185 : (((gt a1 x14).Kind) == 2) = false := by simpa using hb185
                      refine OpsT.keep [1, 2, 3, 7, 8, 9, 11, 12, 14, 79, 86] (S' := [(1, .slice A_a1 a1.length c_a1), (2, .slice A_a2 a2.length c_a2), (3, .pointer (some ⟨b1, 0, none⟩)), (7, .bool y3), (8, .int .i64 y41), (9, .int .i64 x14), (11, .bool y43), (12, .pointer (some ⟨b46, 0, none⟩)), (14, .int .i64 x56), (79, .bool false), (86, .bool false)]) (by (try simp only [hb185]); kernel_rfl) ?_
                      refine OpsT.pures (r := [25, 26, 27, 28, 29, 30, 31, 32, 33]) [18, 19, 20, 21, 22, 23, 24] [1, 2, 3, 7, 8, 9, 11, 12, 14, 91, 92, 93] (S' := [(1, .slice A_a1 a1.length c_a1), (2, .slice A_a2 a2.length c_a2), (3, .pointer (some ⟨b1, 0, none⟩)), (7, .bool y3), (8, .int .i64 y41), (9, .int .i64 x14), (11, .bool y43), (12, .pointer (some ⟨b46, 0, none⟩)), (14, .int .i64 x56), (91, .bool false), (92, .slice A_a1 a1.length c_a1), (93, .int .i64 x14)]) (by kernel_rfl) ?_
                      obtain ⟨hg194, h2⟩ := guardS h2
                      obtain ⟨g195, o199, hA196, hr197, hl198⟩ := RdS.get (hr_a1.mono (Hp.le_trans hle12 hle45)) hg194.1 hg194.2
                      refine OpsT.cons (Does.yi (Yl.indexSlice (d := 94) (T := 49) (cc := c_a1) (k := .i64) (j := x14) (g := g195) (o := o199) (by kernel_rfl) Go.Proofs.Tryd.underlying49 ty43 hA196 hg194.1 hg194.2) hI ?_)
                      refine OpsT.pures (r := [27, 28, 29, 30, 31, 32, 33]) [26] [1, 2, 3, 7, 8, 9, 11, 12, 14, 91, 95] (S' := [(1, .slice A_a1 a1.length c_a1), (2, .slice A_a2 a2.length c_a2), (3, .pointer (some ⟨b1, 0, none⟩)), (7, .bool y3), (8, .int .i64 y41), (9, .int .i64 x14), (11, .bool y43), (12, .pointer (some ⟨b46, 0, none⟩)), (14, .int .i64 x56), (91, .bool false), (95, .pointer (some ⟨g195, o199 + x14.toNat * 6, none⟩))]) (by kernel_rfl) ?_
                      refine OpsT.cons (Does.yi (Yl.load (d := 96) (T := 35) (v := .int .i64 ((gt a1 x14).Kind)) (by kernel_rfl) (ldR ty35 (v := .int .i64 ((gt a1 x14).Kind)) 0 (fun w hC => hr197 w0 w _ hC) (by kernel_rfl))) hI ?_)
                      refine OpsT.pures (r := [30, 31, 32, 33]) [28, 29] [1, 2, 3, 7, 8, 9, 11, 12, 14, 91, 98] (S' := [(1, .slice A_a1 a1.length c_a1), (2, .slice A_a2 a2.length c_a2), (3, .pointer (some ⟨b1, 0, none⟩)), (7, .bool y3), (8, .int .i64 y41), (9, .int .i64 x14), (11, .bool y43), (12, .pointer (some ⟨b46, 0, none⟩)), (14, .int .i64 x56), (91, .bool false), (98, .bool (((gt a1 x14).Kind) == 0))]) (by kernel_rfl) ?_
                      by_cases hb200 : (((gt a1 x14).Kind) == 0) = true
                      · rw [if_pos hb200] at h2
                        refine OpsT.keep [1, 2, 3, 7, 8, 9, 11, 12, 14, 91, 98] (S' := [(1, .slice A_a1 a1.length c_a1), (2, .slice A_a2 a2.length c_a2), (3, .pointer (some ⟨b1, 0, none⟩)), (7, .bool y3), (8, .int .i64 y41), (9, .int .i64 x14), (11, .bool y43), (12, .pointer (some ⟨b46, 0, none⟩)), (14, .int .i64 x56), (91, .bool false), (98, .bool true)]) (by (try simp only [hb200]); kernel_rfl) ?_
                        refine OpsT.pures (r := []) [30, 31, 32, 33] [1, 2, 3, 7, 8, 9, 11, 12, 14, 102] (S' := [(1, .slice A_a1 a1.length c_a1), (2, .slice A_a2 a2.length c_a2), (3, .pointer (some ⟨b1, 0, none⟩)), (7, .bool y3), (8, .int .i64 y41), (9, .int .i64 x14), (11, .bool y43), (12, .pointer (some ⟨b46, 0, none⟩)), (14, .int .i64 x56), (102, .bool (x56 != 4))]) (by kernel_rfl) ?_
                        refine OpsT.done ?_
                        have e := someS h2
                        subst e
                        exact Qn.thenJ fun a ha => ⟨x56 != 4, rfl, ha.keep [1, 2, 3, 7, 8, 9, 11, 12, 14, 102] (by kernel_rfl), hI⟩
                      · rw [if_neg hb200] at h2
                        have hb200 : (((gt a1 x14).Kind) == 0) = false := by simpa using hb200
                        refine OpsT.keep [1, 2, 3, 7, 8, 9, 11, 12, 14, 91, 98] (S' := [(1, .slice A_a1 a1.length c_a1), (2, .slice A_a2 a2.length c_a2), (3, .pointer (some ⟨b1, 0, none⟩)), (7, .bool y3), (8, .int .i64 y41), (9, .int .i64 x14), (11, .bool y43), (12, .pointer (some ⟨b46, 0, none⟩)), (14, .int .i64 x56), (91, .bool false), (98, .bool false)]) (by (try simp only [hb200]); kernel_rfl) ?_
                        refine OpsT.pures (r := []) [30, 31, 32, 33] [1, 2, 3, 7, 8, 9, 11, 12, 14, 102] (S' := [(1, .slice A_a1 a1.length c_a1), (2, .slice A_a2 a2.length c_a2), (3, .pointer (some ⟨b1, 0, none⟩)), (7, .bool y3), (8, .int .i64 y41), (9, .int .i64 x14), (11, .bool y43), (12, .pointer (some ⟨b46, 0, none⟩)), (14, .int .i64 x56), (102, .bool false)]) (by kernel_rfl) ?_
                        refine OpsT.done ?_
                        have e := someS h2
                        subst e
                        exact Qn.thenJ fun a ha => ⟨false, rfl, ha.keep [1, 2, 3, 7, 8, 9, 11, 12, 14, 102] (by kernel_rfl), hI⟩
                ·
                  rintro a w ⟨x148, rfl, ha, hI⟩
                  try dsimp only at h1
                  refine CodT.of ?_ ha
                  by_cases hb201 : x148 = true
                  · rw [if_pos hb201] at h1
                    refine CodT.yes' (b := x148) (by kernel_rfl) hb201 ?_
                    refine CodT.seq ?_
                    refine CodT.regionL [0] (by kernel_rfl) ?_
                    refine OpsT.pures (r := []) [0] [6] (S' := [(6, .bool false)]) (by kernel_rfl) ?_
                    refine OpsT.done ?_
                    refine Qn.then ?_
                    refine CodT.ret ?_
                    refine Qn.ret_then ?_
                    refine Qn.block_ret ?_
                    refine Qn.ret_then ?_
                    refine Qn.ret_then ?_
                    refine Qn.block_ret ?_
                    refine Qn.ret_then ?_
                    refine Qn.ret_then ?_
                    have hI := hI.drop
                    have hI := hI.drop
                    have e := someS h1
                    subst e
                    try dsimp only at h0
                    have e := someS h0
                    subst e
                    refine Qn.keep [6] (S' := [(6, .bool false)]) (by kernel_rfl) ?_
                    exact post_ret (v := .bool false) (fun a ha => RunRes.run (vs := [.bool false]) (.tmp (t := 6) (by kernel_rfl) .nil) ha (by kernel_rfl)) ⟨rfl, hI.weaken (Hp.le_trans hle12 hle45)⟩
                  · rw [if_neg hb201] at h1
                    refine CodT.no' (b := x148) (by kernel_rfl) (by simpa using hb201) ?_
                    refine CodT.skip ?_
                    refine Qn.then ?_
                    refine CodT.seq ?_
                    obtain ⟨r2, h2, h1⟩ := bindS h1
                    refine CodT.meet (fun a w => ∃ (x202 : Bool), x202 = r2 ∧ Fr 137 [(1, .slice A_a1 a1.length c_a1), (2, .slice A_a2 a2.length c_a2), (3, .pointer (some ⟨b1, 0, none⟩)), (7, .bool y3), (8, .int .i64 y41), (9, .int .i64 x14), (11, .bool y43), (12, .pointer (some ⟨b46, 0, none⟩)), (112, .bool x202)] a ∧ Inv w0 Z44 w (star (pt b46 (.cells ((([.int .i64 x47, .string x48, .string x49, .bool x50, .int .i64 x51, .slice A53 x52.length cp54] : List Value))).toArray 24 (0, 0))) (star (pt b1 (.cells ((([.int .i64 x15, .string x16, .string x17, .bool x18, .int .i64 x19, .slice A21 x20.length cp22] : List Value))).toArray 24 (0, 0))) A))) ?_ ?_
                    ·
                      refine CodT.regionL [0, 1, 2, 3, 4, 5, 6, 7, 8, 9] (by kernel_rfl) ?_
                      refine OpsT.pures (r := [2, 3, 4, 5, 6, 7, 8, 9]) [0, 1] [1, 2, 3, 7, 8, 9, 11, 12, 14, 103, 104] (S' := [(1, .slice A_a1 a1.length c_a1), (2, .slice A_a2 a2.length c_a2), (3, .pointer (some ⟨b1, 0, none⟩)), (7, .bool y3), (8, .int .i64 y41), (9, .int .i64 x14), (11, .bool y43), (12, .pointer (some ⟨b46, 0, none⟩)), (14, .int .i64 x56), (103, .slice A_a1 a1.length c_a1), (104, .int .i64 x14)]) (by kernel_rfl) ?_
                      obtain ⟨hg203, h2⟩ := guardS h2
                      obtain ⟨g204, o208, hA205, hr206, hl207⟩ := RdS.get (hr_a1.mono (Hp.le_trans hle12 hle45)) hg203.1 hg203.2
                      refine OpsT.cons (Does.yi (Yl.indexSlice (d := 105) (T := 49) (cc := c_a1) (k := .i64) (j := x14) (g := g204) (o := o208) (by kernel_rfl) Go.Proofs.Tryd.underlying49 ty43 hA205 hg203.1 hg203.2) hI ?_)
                      refine OpsT.pures (r := [4, 5, 6, 7, 8, 9]) [3] [1, 2, 3, 7, 8, 9, 11, 12, 14, 106] (S' := [(1, .slice A_a1 a1.length c_a1), (2, .slice A_a2 a2.length c_a2), (3, .pointer (some ⟨b1, 0, none⟩)), (7, .bool y3), (8, .int .i64 y41), (9, .int .i64 x14), (11, .bool y43), (12, .pointer (some ⟨b46, 0, none⟩)), (14, .int .i64 x56), (106, .pointer (some ⟨g204, o208 + x14.toNat * 6, none⟩))]) (by kernel_rfl) ?_
                      refine OpsT.cons (Does.yi (Yl.load (d := 107) (T := 35) (v := .int .i64 ((gt a1 x14).Kind)) (by kernel_rfl) (ldR ty35 (v := .int .i64 ((gt a1 x14).Kind)) 0 (fun w hC => hr206 w0 w _ hC) (by kernel_rfl))) hI ?_)
                      refine OpsT.pures (r := [7, 8, 9]) [5, 6] [1, 2, 3, 7, 8, 9, 11, 12, 14, 109] (S' := [(1, .slice A_a1 a1.length c_a1), (2, .slice A_a2 a2.length c_a2), (3, .pointer (some ⟨b1, 0, none⟩)), (7, .bool y3), (8, .int .i64 y41), (9, .int .i64 x14), (11, .bool y43), (12, .pointer (some ⟨b46, 0, none⟩)), (14, .int .i64 x56), (109, .bool (((gt a1 x14).Kind) == 6))]) (by kernel_rfl) ?_
                      by_cases hb209 : (((gt a1 x14).Kind) == 6) = true
                      · rw [if_pos hb209] at h2
                        refine OpsT.keep [1, 2, 3, 7, 8, 9, 11, 12, 14, 109] (S' := [(1, .slice A_a1 a1.length c_a1), (2, .slice A_a2 a2.length c_a2), (3, .pointer (some ⟨b1, 0, none⟩)), (7, .bool y3), (8, .int .i64 y41), (9, .int .i64 x14), (11, .bool y43), (12, .pointer (some ⟨b46, 0, none⟩)), (14, .int .i64 x56), (109, .bool true)]) (by (try simp only [hb209]); kernel_rfl) ?_
                        refine OpsT.pures (r := []) [7, 8, 9] [1, 2, 3, 7, 8, 9, 11, 12, 112] (S' := [(1, .slice A_a1 a1.length c_a1), (2, .slice A_a2 a2.length c_a2), (3, .pointer (some ⟨b1, 0, none⟩)), (7, .bool y3), (8, .int .i64 y41), (9, .int .i64 x14), (11, .bool y43), (12, .pointer (some ⟨b46, 0, none⟩)), (112, .bool (x56 == 0))]) (by kernel_rfl) ?_
                        refine OpsT.done ?_
                        have e := someS h2
                        subst e
                        exact Qn.thenJ fun a ha => ⟨x56 == 0, rfl, ha.keep [1, 2, 3, 7, 8, 9, 11, 12, 112] (by kernel_rfl), hI⟩
                      · rw [if_neg hb209] at h2
                        have hb209 : (((gt a1 x14).Kind) == 6) = false := by simpa using hb209
                        refine OpsT.keep [1, 2, 3, 7, 8, 9, 11, 12, 14, 109] (S' := [(1, .slice A_a1 a1.length c_a1), (2, .slice A_a2 a2.length c_a2), (3, .pointer (some ⟨b1, 0, none⟩)), (7, .bool y3), (8, .int .i64 y41), (9, .int .i64 x14), (11, .bool y43), (12, .pointer (some ⟨b46, 0, none⟩)), (14, .int .i64 x56), (109, .bool false)]) (by (try simp only [hb209]); kernel_rfl) ?_
                        refine OpsT.pures (r := []) [7, 8, 9] [1, 2, 3, 7, 8, 9, 11, 12, 112] (S' := [(1, .slice A_a1 a1.length c_a1), (2, .slice A_a2 a2.length c_a2), (3, .pointer (some ⟨b1, 0, none⟩)), (7, .bool y3), (8, .int .i64 y41), (9, .int .i64 x14), (11, .bool y43), (12, .pointer (some ⟨b46, 0, none⟩)), (112, .bool false)]) (by kernel_rfl) ?_
                        refine OpsT.done ?_
                        have e := someS h2
                        subst e
                        exact Qn.thenJ fun a ha => ⟨false, rfl, ha.keep [1, 2, 3, 7, 8, 9, 11, 12, 112] (by kernel_rfl), hI⟩
                    ·
                      rintro a w ⟨x202, rfl, ha, hI⟩
                      try dsimp only at h1
                      refine CodT.of ?_ ha
                      by_cases hb210 : x202 = true
                      · rw [if_pos hb210] at h1
                        refine CodT.yes' (b := x202) (by kernel_rfl) hb210 ?_
                        obtain ⟨r2, h2, h1⟩ := bindS h1
                        refine CodT.meet (fun a w => ∃ (x211 : Bool), x211 = r2 ∧ Fr 137 [(6, .bool x211)] a ∧ Inv w0 Z44 w A) ?_ ?_
                        ·
                          refine CodT.regionL [0, 1, 2, 3, 4, 5] (by kernel_rfl) ?_
                          refine OpsT.pures (r := [2, 3, 4, 5]) [0, 1] [11, 114] (S' := [(11, .bool y43), (114, .bool y3)]) (by kernel_rfl) ?_
                          by_cases hb212 : y3 = true
                          · rw [if_pos hb212] at h2
                            refine OpsT.keep [11, 114] (S' := [(11, .bool y43), (114, .bool true)]) (by (try simp only [hb212]); kernel_rfl) ?_
                            refine OpsT.pures (r := []) [2, 3, 4, 5] [6] (S' := [(6, .bool (!y43))]) (by kernel_rfl) ?_
                            refine OpsT.done ?_
                            have hI := hI.drop
                            have hI := hI.drop
                            have e := someS h2
                            subst e
                            exact Qn.thenJ fun a ha => ⟨!y43, rfl, ha.keep [6] (by kernel_rfl), hI⟩
                          · rw [if_neg hb212] at h2
                            have hb212 : y3 = false := by simpa using hb212
                            refine OpsT.keep [11, 114] (S' := [(11, .bool y43), (114, .bool false)]) (by (try simp only [hb212]); kernel_rfl) ?_
                            refine OpsT.pures (r := []) [2, 3, 4, 5] [6] (S' := [(6, .bool false)]) (by kernel_rfl) ?_
                            refine OpsT.done ?_
                            have hI := hI.drop
                            have hI := hI.drop
                            have e := someS h2
                            subst e
                            exact Qn.thenJ fun a ha => ⟨false, rfl, ha.keep [6] (by kernel_rfl), hI⟩
                        ·
                          rintro a w ⟨x211, rfl, ha, hI⟩
                          try dsimp only at h1
                          refine CodT.of ?_ ha
                          refine CodT.ret ?_
                          refine Qn.ret_then ?_
                          refine Qn.block_ret ?_
                          refine Qn.ret_then ?_
                          refine Qn.ret_then ?_
                          refine Qn.block_ret ?_
                          refine Qn.ret_then ?_
                          refine Qn.ret_then ?_
                          have e := someS h1
                          subst e
                          try dsimp only at h0
                          have e := someS h0
                          subst e
                          refine Qn.keep [6] (S' := [(6, .bool x211)]) (by kernel_rfl) ?_
                          exact post_ret (v := .bool x211) (fun a ha => RunRes.run (vs := [.bool x211]) (.tmp (t := 6) (by kernel_rfl) .nil) ha (by kernel_rfl)) ⟨rfl, hI.weaken (Hp.le_trans hle12 hle45)⟩
                      · rw [if_neg hb210] at h1
                        refine CodT.no' (b := x202) (by kernel_rfl) (by simpa using hb210) ?_
                        refine CodT.skip ?_
                        refine Qn.then ?_
                        refine CodT.seq ?_
                        obtain ⟨r2, h2, h1⟩ := bindS h1
                        refine CodT.meet (fun a w => ∃ (x213 : Bool), x213 = r2 ∧ Fr 137 [(1, .slice A_a1 a1.length c_a1), (2, .slice A_a2 a2.length c_a2), (3, .pointer (some ⟨b1, 0, none⟩)), (7, .bool y3), (8, .int .i64 y41), (9, .int .i64 x14), (12, .pointer (some ⟨b46, 0, none⟩)), (134, .bool x213)] a ∧ Inv w0 Z44 w (star (pt b46 (.cells ((([.int .i64 x47, .string x48, .string x49, .bool x50, .int .i64 x51, .slice A53 x52.length cp54] : List Value))).toArray 24 (0, 0))) (star (pt b1 (.cells ((([.int .i64 x15, .string x16, .string x17, .bool x18, .int .i64 x19, .slice A21 x20.length cp22] : List Value))).toArray 24 (0, 0))) A))) ?_ ?_
                        ·
                          refine CodT.regionL [0, 1, 2, 3, 4, 5, 6, 7, 8, 9, 10, 11, 12, 13, 14, 15, 16] (by kernel_rfl) ?_
                          refine OpsT.pures (r := [1, 2, 3, 4, 5, 6, 7, 8, 9, 10, 11, 12, 13, 14, 15, 16]) [0] [1, 2, 3, 7, 8, 9, 12, 118] (S' := [(1, .slice A_a1 a1.length c_a1), (2, .slice A_a2 a2.length c_a2), (3, .pointer (some ⟨b1, 0, none⟩)), (7, .bool y3), (8, .int .i64 y41), (9, .int .i64 x14), (12, .pointer (some ⟨b46, 0, none⟩)), (118, .pointer (some ⟨b46, 2, none⟩))]) (by kernel_rfl) ?_
                          refine OpsT.cons (Does.yi (Yl.load (d := 119) (T := 9) (v := .string x49) (by kernel_rfl) (ldB ty9 (l := (([.int .i64 x47, .string x48, .string x49, .bool x50, .int .i64 x51, .slice A53 x52.length cp54] : List Value))) (o := 2) (v := .string x49) (ent_refl _) (by kernel_rfl))) hI ?_)
                          refine OpsT.pures (r := [3, 4, 5, 6, 7, 8, 9, 10, 11, 12, 13, 14, 15, 16]) [2] [1, 2, 3, 7, 8, 9, 12, 119, 120] (S' := [(1, .slice A_a1 a1.length c_a1), (2, .slice A_a2 a2.length c_a2), (3, .pointer (some ⟨b1, 0, none⟩)), (7, .bool y3), (8, .int .i64 y41), (9, .int .i64 x14), (12, .pointer (some ⟨b46, 0, none⟩)), (119, .string x49), (120, .pointer (some ⟨b1, 2, none⟩))]) (by kernel_rfl) ?_
                          refine OpsT.cons (Does.yi (Yl.load (d := 121) (T := 9) (v := .string x17) (by kernel_rfl) (ldB ty9 (l := (([.int .i64 x15, .string x16, .string x17, .bool x18, .int .i64 x19, .slice A21 x20.length cp22] : List Value))) (o := 2) (v := .string x17) (pick2 _ _ _) (by kernel_rfl))) hI ?_)
                          refine OpsT.pures (r := [6, 7, 8, 9, 10, 11, 12, 13, 14, 15, 16]) [4, 5] [1, 2, 3, 7, 8, 9, 12, 123] (S' := [(1, .slice A_a1 a1.length c_a1), (2, .slice A_a2 a2.length c_a2), (3, .pointer (some ⟨b1, 0, none⟩)), (7, .bool y3), (8, .int .i64 y41), (9, .int .i64 x14), (12, .pointer (some ⟨b46, 0, none⟩)), (123, .bool (!(seq x49 x17)))]) (by kernel_rfl) ?_
                          by_cases hb214 : (!(seq x49 x17)) = true
                          · rw [if_pos hb214] at h2
                            refine OpsT.keep [1, 2, 3, 7, 8, 9, 12, 123] (S' := [(1, .slice A_a1 a1.length c_a1), (2, .slice A_a2 a2.length c_a2), (3, .pointer (some ⟨b1, 0, none⟩)), (7, .bool y3), (8, .int .i64 y41), (9, .int .i64 x14), (12, .pointer (some ⟨b46, 0, none⟩)), (123, .bool true)]) (by (try simp only [hb214]); kernel_rfl) ?_
                            refine OpsT.pures (r := []) [6, 7, 8, 9, 10, 11, 12, 13, 14, 15, 16] [1, 2, 3, 7, 8, 9, 12, 134] (S' := [(1, .slice A_a1 a1.length c_a1), (2, .slice A_a2 a2.length c_a2), (3, .pointer (some ⟨b1, 0, none⟩)), (7, .bool y3), (8, .int .i64 y41), (9, .int .i64 x14), (12, .pointer (some ⟨b46, 0, none⟩)), (134, .bool true)]) (by kernel_rfl) ?_
                            refine OpsT.done ?_
                            have e := someS h2
                            subst e
                            exact Qn.thenJ fun a ha => ⟨true, rfl, ha.keep [1, 2, 3, 7, 8, 9, 12, 134] (by kernel_rfl), hI⟩
                          · rw [if_neg hb214] at h2
                            have hb214 : (!(seq x49 x17)) = false := by simpa using hb214
                            refine OpsT.keep [1, 2, 3, 7, 8, 9, 12, 123] (S' := [(1, .slice A_a1 a1.length c_a1), (2, .slice A_a2 a2.length c_a2), (3, .pointer (some ⟨b1, 0, none⟩)), (7, .bool y3), (8, .int .i64 y41), (9, .int .i64 x14), (12, .pointer (some ⟨b46, 0, none⟩)), (123, .bool false)]) (by (try simp only [hb214]); kernel_rfl) ?_
                            refine OpsT.pures (r := [7, 8, 9, 10, 11, 12, 13, 14, 15, 16]) [6] [1, 2, 3, 7, 8, 9, 12, 123, 124] (S' := [(1, .slice A_a1 a1.length c_a1), (2, .slice A_a2 a2.length c_a2), (3, .pointer (some ⟨b1, 0, none⟩)), (7, .bool y3), (8, .int .i64 y41), (9, .int .i64 x14), (12, .pointer (some ⟨b46, 0, none⟩)), (123, .bool false), (124, .pointer (some ⟨b46, 3, none⟩))]) (by kernel_rfl) ?_
                            refine OpsT.cons (Does.yi (Yl.load (d := 125) (T := 4) (v := .bool x50) (by kernel_rfl) (ldB ty4 (l := (([.int .i64 x47, .string x48, .string x49, .bool x50, .int .i64 x51, .slice A53 x52.length cp54] : List Value))) (o := 3) (v := .bool x50) (ent_refl _) (by kernel_rfl))) hI ?_)
                            refine OpsT.pures (r := [11, 12, 13, 14, 15, 16]) [8, 9, 10] [1, 2, 3, 7, 8, 9, 12, 128] (S' := [(1, .slice A_a1 a1.length c_a1), (2, .slice A_a2 a2.length c_a2), (3, .pointer (some ⟨b1, 0, none⟩)), (7, .bool y3), (8, .int .i64 y41), (9, .int .i64 x14), (12, .pointer (some ⟨b46, 0, none⟩)), (128, .bool (!x50))]) (by kernel_rfl) ?_
                            by_cases hb215 : (!x50) = true
                            · rw [if_pos hb215] at h2
                              refine OpsT.keep [1, 2, 3, 7, 8, 9, 12, 128] (S' := [(1, .slice A_a1 a1.length c_a1), (2, .slice A_a2 a2.length c_a2), (3, .pointer (some ⟨b1, 0, none⟩)), (7, .bool y3), (8, .int .i64 y41), (9, .int .i64 x14), (12, .pointer (some ⟨b46, 0, none⟩)), (128, .bool true)]) (by (try simp only [hb215]); kernel_rfl) ?_
                              refine OpsT.pures (r := []) [11, 12, 13, 14, 15, 16] [1, 2, 3, 7, 8, 9, 12, 134] (S' := [(1, .slice A_a1 a1.length c_a1), (2, .slice A_a2 a2.length c_a2), (3, .pointer (some ⟨b1, 0, none⟩)), (7, .bool y3), (8, .int .i64 y41), (9, .int .i64 x14), (12, .pointer (some ⟨b46, 0, none⟩)), (134, .bool true)]) (by kernel_rfl) ?_
                              refine OpsT.done ?_
                              have e := someS h2
                              subst e
                              exact Qn.thenJ fun a ha => ⟨true, rfl, ha.keep [1, 2, 3, 7, 8, 9, 12, 134] (by kernel_rfl), hI⟩
                            · rw [if_neg hb215] at h2
                              have hb215 : (!x50) = false := by simpa using hb215
                              refine OpsT.keep [1, 2, 3, 7, 8, 9, 12, 128] (S' := [(1, .slice A_a1 a1.length c_a1), (2, .slice A_a2 a2.length c_a2), (3, .pointer (some ⟨b1, 0, none⟩)), (7, .bool y3), (8, .int .i64 y41), (9, .int .i64 x14), (12, .pointer (some ⟨b46, 0, none⟩)), (128, .bool false)]) (by (try simp only [hb215]); kernel_rfl) ?_
                              refine OpsT.pures (r := [12, 13, 14, 15, 16]) [11] [1, 2, 3, 7, 8, 9, 12, 128, 129] (S' := [(1, .slice A_a1 a1.length c_a1), (2, .slice A_a2 a2.length c_a2), (3, .pointer (some ⟨b1, 0, none⟩)), (7, .bool y3), (8, .int .i64 y41), (9, .int .i64 x14), (12, .pointer (some ⟨b46, 0, none⟩)), (128, .bool false), (129, .pointer (some ⟨b46, 4, none⟩))]) (by kernel_rfl) ?_
                              refine OpsT.cons (Does.yi (Yl.load (d := 130) (T := 3) (v := .int .i64 x51) (by kernel_rfl) (ldB ty3 (l := (([.int .i64 x47, .string x48, .string x49, .bool x50, .int .i64 x51, .slice A53 x52.length cp54] : List Value))) (o := 4) (v := .int .i64 x51) (ent_refl _) (by kernel_rfl))) hI ?_)
                              refine OpsT.pures (r := [14, 15, 16]) [13] [1, 2, 3, 7, 8, 9, 12, 128, 130, 131] (S' := [(1, .slice A_a1 a1.length c_a1), (2, .slice A_a2 a2.length c_a2), (3, .pointer (some ⟨b1, 0, none⟩)), (7, .bool y3), (8, .int .i64 y41), (9, .int .i64 x14), (12, .pointer (some ⟨b46, 0, none⟩)), (128, .bool false), (130, .int .i64 x51), (131, .pointer (some ⟨b1, 4, none⟩))]) (by kernel_rfl) ?_
                              refine OpsT.cons (Does.yi (Yl.load (d := 132) (T := 3) (v := .int .i64 x19) (by kernel_rfl) (ldB ty3 (l := (([.int .i64 x15, .string x16, .string x17, .bool x18, .int .i64 x19, .slice A21 x20.length cp22] : List Value))) (o := 4) (v := .int .i64 x19) (pick2 _ _ _) (by kernel_rfl))) hI ?_)
                              refine OpsT.pures (r := []) [15, 16] [1, 2, 3, 7, 8, 9, 12, 134] (S' := [(1, .slice A_a1 a1.length c_a1), (2, .slice A_a2 a2.length c_a2), (3, .pointer (some ⟨b1, 0, none⟩)), (7, .bool y3), (8, .int .i64 y41), (9, .int .i64 x14), (12, .pointer (some ⟨b46, 0, none⟩)), (134, .bool (decide (x51 < x19)))]) (by kernel_rfl) ?_
                              refine OpsT.done ?_
                              have e := someS h2
                              subst e
                              exact Qn.thenJ fun a ha => ⟨decide (x51 < x19), rfl, ha.keep [1, 2, 3, 7, 8, 9, 12, 134] (by kernel_rfl), hI⟩
                        ·
                          rintro a w ⟨x213, rfl, ha, hI⟩
                          try dsimp only at h1
                          refine CodT.of ?_ ha
                          by_cases hb216 : x213 = true
                          · rw [if_pos hb216] at h1
                            refine CodT.yes' (b := x213) (by kernel_rfl) hb216 ?_
                            refine CodT.seq ?_
                            refine CodT.regionL [0] (by kernel_rfl) ?_
                            refine OpsT.pures (r := []) [0] [6] (S' := [(6, .bool false)]) (by kernel_rfl) ?_
                            refine OpsT.done ?_
                            refine Qn.then ?_
                            refine CodT.ret ?_
                            refine Qn.ret_then ?_
                            refine Qn.block_ret ?_
                            refine Qn.ret_then ?_
                            refine Qn.ret_then ?_
                            refine Qn.block_ret ?_
                            refine Qn.ret_then ?_
                            refine Qn.ret_then ?_
                            have hI := hI.drop
                            have hI := hI.drop
                            have e := someS h1
                            subst e
                            try dsimp only at h0
                            have e := someS h0
                            subst e
                            refine Qn.keep [6] (S' := [(6, .bool false)]) (by kernel_rfl) ?_
                            exact post_ret (v := .bool false) (fun a ha => RunRes.run (vs := [.bool false]) (.tmp (t := 6) (by kernel_rfl) .nil) ha (by kernel_rfl)) ⟨rfl, hI.weaken (Hp.le_trans hle12 hle45)⟩
                          · rw [if_neg hb216] at h1
                            refine CodT.no' (b := x213) (by kernel_rfl) (by simpa using hb216) ?_
                            refine CodT.skip ?_
                            refine Qn.then ?_
                            refine CodT.regionL [0, 1] (by kernel_rfl) ?_
                            refine OpsT.cons (Does.yi (Yl.load (d := 135) (T := 24) (v := .agg ((([.int .i64 x47, .string x48, .string x49, .bool x50, .int .i64 x51, .slice A53 x52.length cp54] : List Value))).toArray) (by kernel_rfl) (ldBN ty24 (l := (([.int .i64 x47, .string x48, .string x49, .bool x50, .int .i64 x51, .slice A53 x52.length cp54] : List Value))) (o := 0) (cs := (([.int .i64 x47, .string x48, .string x49, .bool x50, .int .i64 x51, .slice A53 x52.length cp54] : List Value))) (ent_refl _) (by kernel_rfl) (whole _ _ (by kernel_rfl)))) hI ?_)
                            have hI := hI.mono (pick2 _ _ _)
                            refine OpsT.cons (Does.storeLit (T := 24) (b := b1) (o := 0) (v := .agg ((([.int .i64 x47, .string x48, .string x49, .bool x50, .int .i64 x51, .slice A53 x52.length cp54] : List Value))).toArray) (l := (([.int .i64 x15, .string x16, .string x17, .bool x18, .int .i64 x19, .slice A21 x20.length cp22] : List Value))) (vs := (([.int .i64 x47, .string x48, .string x49, .bool x50, .int .i64 x51, .slice A53 x52.length cp54] : List Value))) (L' := (([.int .i64 x47, .string x48, .string x49, .bool x50, .int .i64 x51, .slice A53 x52.length cp54] : List Value))) (by kernel_rfl) ty24 hI (by kernel_rfl) (by kernel_rfl) (by kernel_rfl) (by kernel_rfl) (by kernel_rfl) ?_)
                            intro w hI
                            refine OpsT.done ?_
                            refine Qn.block_normal ?_
                            refine Qn.then ?_
                            refine CodT.regionL [0, 1, 2] (by kernel_rfl) ?_
                            refine OpsT.pures (r := []) [0, 1, 2] [1, 2, 3, 7, 8, 9] (S' := [(1, .slice A_a1 a1.length c_a1), (2, .slice A_a2 a2.length c_a2), (3, .pointer (some ⟨b1, 0, none⟩)), (7, .bool y3), (8, .int .i64 y41), (9, .int .i64 (wi64 (x14 + 1)))]) (by kernel_rfl) ?_
                            refine OpsT.done ?_
                            have hI := hI.mono (pick2 _ _ _)
                            have hI := hI.drop
                            exact Qn.thenJ fun a ha => ⟨k, Nat.lt_succ_self k, y41, wi64 (x14 + 1), x47, x48, x49, x50, x51, x52, Z44, A53, cp54, h1, ha.keep [1, 2, 3, 7, 8, 9] (by kernel_rfl), hI, (Hp.le_trans hle12 hle45), hr55⟩
          · rw [if_neg hb24] at h1
            refine CodT.no' (b := decide (x14 < (a1.length : Int))) (by kernel_rfl) (by simpa using hb24) ?_
            refine CodT.exit ?_
            refine Qn.exit_then ?_
            refine Qn.exit_then ?_
            refine Qn.block ?_
            have hI := hI.drop
            have e := someS h1
            subst e
            exact Qn.thenJ fun a ha => ⟨Z11, rfl, ha.keep [7] (by kernel_rfl), hI, hle12⟩
        ·
          rintro a w ⟨Z9, rfl, ha, hI, hle10⟩
          try dsimp only at h0
          refine Qn.of ?_ ha
          refine Qn.then ?_
          refine CodT.seq ?_
          refine CodT.regionL [0, 1] (by kernel_rfl) ?_
          refine OpsT.pures (r := []) [0, 1] [6] (S' := [(6, .bool y3)]) (by kernel_rfl) ?_
          refine OpsT.done ?_
          refine Qn.then ?_
          refine CodT.ret ?_
          have e := someS h0
          subst e
          refine Qn.keep [6] (S' := [(6, .bool y3)]) (by kernel_rfl) ?_
          exact post_ret (v := .bool y3) (fun a ha => RunRes.run (vs := [.bool y3]) (.tmp (t := 6) (by kernel_rfl) .nil) ha (by kernel_rfl)) ⟨rfl, hI.weaken hle10⟩
end Go.Cen
