/- The walk of the law FileStays, printed by a program of ours. -/
import Derived.Test.YthdoklobbcedcaeDoorWx3
set_option linter.unusedVariables false
set_option linter.unusedSimpArgs false
namespace Go.Cen
set_option maxRecDepth 100000 in
set_option maxHeartbeats 4000000 in
/-- cenotaph/cenotaphlaw08.FileStays -/
theorem c3 (w0 w : World) (Z : Hp) (A : HP) (hI : Inv w0 Z w A) (hT : Tabs Z) (a0_ID : Int) (a0_Name : ByteArray) (a0_Data : ByteArray) (a0_Sealed : Bool) (a0_Until : Int) (A_a0_Holds : Option Addr) (c_a0_Holds : Nat) (a0_Holds : (List ByteArray)) (hr_a0_Holds : RdS Z cS 1 A_a0_Holds c_a0_Holds a0_Holds) (A_a1 : Option Addr) (c_a1 : Nat) (a1 : (List ApiOp)) (hr_a1 : RdS Z c_ApiOp 6 A_a1 c_a1 a1) (a2 : Int) (r : Bool) (h0 : law08_FileStays a0_ID a0_Name a0_Data a0_Sealed a0_Until a0_Holds a1 a2 = some r) :
    Calls prog 3 #[.agg ((([.int .i64 a0_ID, .string a0_Name, .string a0_Data, .bool a0_Sealed, .int .i64 a0_Until, .slice A_a0_Holds a0_Holds.length c_a0_Holds] : List Value))).toArray, .slice A_a1 a1.length c_a1, .int .i64 a2] w (fun e w' => e = .returned (.bool r) ∧ Inv w0 Z w' A) := by
  have e4 := calls_intro (R := (fun e w' => e = .returned (.bool r) ∧ Inv w0 Z w' A)) (w := w) (args := [.agg ((([.int .i64 a0_ID, .string a0_Name, .string a0_Data, .bool a0_Sealed, .int .i64 a0_Until, .slice A_a0_Holds a0_Holds.length c_a0_Holds] : List Value))).toArray, .slice A_a1 a1.length c_a1, .int .i64 a2]) (fn := Go.Proofs.Tryd.f3) 113 Go.Proofs.Tryd.func3 (by rfl) Go.Proofs.Tryd.ntmps3 (by kernel_rfl)
  refine e4 ?_
  clear e4
  unfold law08_FileStays at h0
  refine CodT.seq ?_
  refine CodT.regionL [0, 1] (by kernel_rfl) ?_
  refine OpsT.cons (Does.boxL (d := 3) (T := 24) (v := .agg ((([.int .i64 a0_ID, .string a0_Name, .string a0_Data, .bool a0_Sealed, .int .i64 a0_Until, .slice A_a0_Holds a0_Holds.length c_a0_Holds] : List Value))).toArray) ((([.int .i64 a0_ID, .string a0_Name, .string a0_Data, .bool a0_Sealed, .int .i64 a0_Until, .slice A_a0_Holds a0_Holds.length c_a0_Holds] : List Value))) (by kernel_rfl) hI (by kernel_rfl) ?_)
  intro b1 w hI
  refine OpsT.pures (r := []) [1] [1, 2, 3] (S' := [(1, .slice A_a1 a1.length c_a1), (2, .int .i64 a2), (3, .pointer (some ⟨b1, 0, none⟩))]) (by kernel_rfl) ?_
  refine OpsT.done ?_
  refine Qn.then ?_
  refine CodT.seq ?_
  refine CodT.regionL [0, 1] (by kernel_rfl) ?_
  obtain ⟨y3, hc2, h0⟩ := bindS h0
  try dsimp only at h0
  refine OpsT.cons (Does.call (d := some 13) (n := 8) (vs := []) (by kernel_rfl) en8 (c8 w0 w _ _ hI hT _ hc2) ?_)
  rintro e w ⟨rfl, hI⟩
  refine ⟨_, rfl, ?_⟩
  refine OpsT.pures (r := []) [1] [1, 2, 3, 7] (S' := [(1, .slice A_a1 a1.length c_a1), (2, .int .i64 a2), (3, .pointer (some ⟨b1, 0, none⟩)), (7, .bool y3)]) (by kernel_rfl) ?_
  refine OpsT.done ?_
  refine Qn.then ?_
  refine CodT.seq ?_
  refine CodT.seq ?_
  refine CodT.regionL [0, 1] (by kernel_rfl) ?_
  refine OpsT.pures (r := []) [0, 1] [1, 2, 3, 7, 15] (S' := [(1, .slice A_a1 a1.length c_a1), (2, .int .i64 a2), (3, .pointer (some ⟨b1, 0, none⟩)), (7, .bool y3), (15, .bool (!y3))]) (by kernel_rfl) ?_
  refine OpsT.done ?_
  refine Qn.then ?_
  by_cases hb4 : (!y3) = true
  · rw [if_pos hb4] at h0
    refine CodT.yes' (b := !y3) (by kernel_rfl) hb4 ?_
    refine CodT.seq ?_
    refine CodT.regionL [0] (by kernel_rfl) ?_
    refine OpsT.pures (r := []) [0] [6] (S' := [(6, .bool false)]) (by kernel_rfl) ?_
    refine OpsT.done ?_
    refine Qn.then ?_
    refine CodT.ret ?_
    refine Qn.ret_then ?_
    have hI := hI.drop
    have e := someS h0
    subst e
    refine Qn.keep [6] (S' := [(6, .bool false)]) (by kernel_rfl) ?_
    exact post_ret (v := .bool false) (fun a ha => RunRes.run (vs := [.bool false]) (.tmp (t := 6) (by kernel_rfl) .nil) ha (by kernel_rfl)) ⟨rfl, hI⟩
  · rw [if_neg hb4] at h0
    refine CodT.no' (b := !y3) (by kernel_rfl) (by simpa using hb4) ?_
    refine CodT.skip ?_
    refine Qn.then ?_
    refine CodT.seq ?_
    obtain ⟨r1, h1, h0⟩ := bindS h0
    refine CodT.meet (fun a w => ∃ (x5 : Bool), x5 = r1 ∧ Fr 113 [(1, .slice A_a1 a1.length c_a1), (2, .int .i64 a2), (3, .pointer (some ⟨b1, 0, none⟩)), (7, .bool y3), (23, .bool x5)] a ∧ Inv w0 Z w (star (pt b1 (.cells ((([.int .i64 a0_ID, .string a0_Name, .string a0_Data, .bool a0_Sealed, .int .i64 a0_Until, .slice A_a0_Holds a0_Holds.length c_a0_Holds] : List Value))).toArray 24 (0, 0))) A)) ?_ ?_
    ·
      refine CodT.regionL [0, 1, 2, 3, 4, 5, 6, 7] (by kernel_rfl) ?_
      refine OpsT.pures (r := [4, 5, 6, 7]) [0, 1, 2, 3] [1, 2, 3, 7, 19] (S' := [(1, .slice A_a1 a1.length c_a1), (2, .int .i64 a2), (3, .pointer (some ⟨b1, 0, none⟩)), (7, .bool y3), (19, .bool (decide ((a1.length : Int) > 20)))]) (by kernel_rfl) ?_
      by_cases hb6 : (decide ((a1.length : Int) > 20)) = true
      · rw [if_pos hb6] at h1
        refine OpsT.keep [1, 2, 3, 7, 19] (S' := [(1, .slice A_a1 a1.length c_a1), (2, .int .i64 a2), (3, .pointer (some ⟨b1, 0, none⟩)), (7, .bool y3), (19, .bool true)]) (by (try simp only [hb6]); kernel_rfl) ?_
        refine OpsT.pures (r := []) [4, 5, 6, 7] [1, 2, 3, 7, 23] (S' := [(1, .slice A_a1 a1.length c_a1), (2, .int .i64 a2), (3, .pointer (some ⟨b1, 0, none⟩)), (7, .bool y3), (23, .bool true)]) (by kernel_rfl) ?_
        refine OpsT.done ?_
        have e := someS h1
        subst e
        exact Qn.thenJ fun a ha => ⟨true, rfl, ha.keep [1, 2, 3, 7, 23] (by kernel_rfl), hI⟩
      · rw [if_neg hb6] at h1
        have hb6 : (decide ((a1.length : Int) > 20)) = false := by simpa using hb6
        refine OpsT.keep [1, 2, 3, 7, 19] (S' := [(1, .slice A_a1 a1.length c_a1), (2, .int .i64 a2), (3, .pointer (some ⟨b1, 0, none⟩)), (7, .bool y3), (19, .bool false)]) (by (try simp only [hb6]); kernel_rfl) ?_
        refine OpsT.cons (Does.yi (Yl.load (d := 20) (T := 24) (v := .agg ((([.int .i64 a0_ID, .string a0_Name, .string a0_Data, .bool a0_Sealed, .int .i64 a0_Until, .slice A_a0_Holds a0_Holds.length c_a0_Holds] : List Value))).toArray) (by kernel_rfl) (ldBN ty24 (l := (([.int .i64 a0_ID, .string a0_Name, .string a0_Data, .bool a0_Sealed, .int .i64 a0_Until, .slice A_a0_Holds a0_Holds.length c_a0_Holds] : List Value))) (o := 0) (cs := (([.int .i64 a0_ID, .string a0_Name, .string a0_Data, .bool a0_Sealed, .int .i64 a0_Until, .slice A_a0_Holds a0_Holds.length c_a0_Holds] : List Value))) (ent_refl _) (by kernel_rfl) (whole _ _ (by kernel_rfl)))) hI ?_)
        obtain ⟨y8, hc7, h1⟩ := bindS h1
        try dsimp only at h1
        refine OpsT.cons (Does.call (d := some 21) (n := 9) (vs := [.agg ((([.int .i64 a0_ID, .string a0_Name, .string a0_Data, .bool a0_Sealed, .int .i64 a0_Until, .slice A_a0_Holds a0_Holds.length c_a0_Holds] : List Value))).toArray]) (by kernel_rfl) en9 (c9 w0 w _ _ hI hT a0_ID a0_Name a0_Data a0_Sealed a0_Until A_a0_Holds c_a0_Holds a0_Holds hr_a0_Holds _ hc7) ?_)
        rintro e w ⟨rfl, hI⟩
        refine ⟨_, rfl, ?_⟩
        refine OpsT.pures (r := []) [6, 7] [1, 2, 3, 7, 23] (S' := [(1, .slice A_a1 a1.length c_a1), (2, .int .i64 a2), (3, .pointer (some ⟨b1, 0, none⟩)), (7, .bool y3), (23, .bool (!y8))]) (by kernel_rfl) ?_
        refine OpsT.done ?_
        have e := someS h1
        subst e
        exact Qn.thenJ fun a ha => ⟨!y8, rfl, ha.keep [1, 2, 3, 7, 23] (by kernel_rfl), hI⟩
    ·
      rintro a w ⟨x5, rfl, ha, hI⟩
      try dsimp only at h0
      refine CodT.of ?_ ha
      by_cases hb9 : x5 = true
      · rw [if_pos hb9] at h0
        refine CodT.yes' (b := x5) (by kernel_rfl) hb9 ?_
        refine CodT.seq ?_
        refine CodT.regionL [0, 1] (by kernel_rfl) ?_
        refine OpsT.pures (r := []) [0, 1] [6] (S' := [(6, .bool y3)]) (by kernel_rfl) ?_
        refine OpsT.done ?_
        refine Qn.then ?_
        refine CodT.ret ?_
        refine Qn.ret_then ?_
        have hI := hI.drop
        have e := someS h0
        subst e
        refine Qn.keep [6] (S' := [(6, .bool y3)]) (by kernel_rfl) ?_
        exact post_ret (v := .bool y3) (fun a ha => RunRes.run (vs := [.bool y3]) (.tmp (t := 6) (by kernel_rfl) .nil) ha (by kernel_rfl)) ⟨rfl, hI⟩
      · rw [if_neg hb9] at h0
        refine CodT.no' (b := x5) (by kernel_rfl) (by simpa using hb9) ?_
        refine CodT.skip ?_
        refine Qn.then ?_
        refine CodT.seq ?_
        refine CodT.seq ?_
        refine CodT.regionL [0] (by kernel_rfl) ?_
        refine OpsT.pures (r := []) [0] [1, 2, 3, 7, 8] (S' := [(1, .slice A_a1 a1.length c_a1), (2, .int .i64 a2), (3, .pointer (some ⟨b1, 0, none⟩)), (7, .bool y3), (8, .int .i64 0)]) (by kernel_rfl) ?_
        refine OpsT.done ?_
        refine Qn.then ?_
        obtain ⟨r1, h1, h0⟩ := bindS h0
        refine CodT.meet1 (fun a w => ∃ (Z10 : Hp), .inr () = r1 ∧ Fr 113 [(7, .bool y3)] a ∧ Inv w0 Z10 w A ∧ Z.le Z10) ?_ ?_
        ·
          refine CodT.block ?_
          refine (fun a ha => wp_loopN (fun k a w => ∃ (x14 : Int) (x15 : Int) (x16 : ByteArray) (x17 : ByteArray) (x18 : Bool) (x19 : Int) (x20 : (List ByteArray)) (Z12 : Hp) (A21 : Option Addr) (cp22 : Nat), law08_FileStays.l0 a1 y3 a2 k x14 x15 x16 x17 x18 x19 x20 = some r1 ∧ Fr 113 [(1, .slice A_a1 a1.length c_a1), (2, .int .i64 a2), (3, .pointer (some ⟨b1, 0, none⟩)), (7, .bool y3), (8, .int .i64 x14)] a ∧ Inv w0 Z12 w (star (pt b1 (.cells ((([.int .i64 x15, .string x16, .string x17, .bool x18, .int .i64 x19, .slice A21 x20.length cp22] : List Value))).toArray 24 (0, 0))) A) ∧ Z.le Z12 ∧ RdS Z12 cS 1 A21 cp22 x20) ?_ FU a w ⟨0, a0_ID, a0_Name, a0_Data, a0_Sealed, a0_Until, a0_Holds, Z, A_a0_Holds, c_a0_Holds, h1, ha.keep [1, 2, 3, 7, 8] (by kernel_rfl), hI, (Hp.le_refl _), hr_a0_Holds⟩)
          clear h1 hI
          rintro k a w ⟨x14, x15, x16, x17, x18, x19, x20, Z12, A21, cp22, h1, ha, hI, hle13, hr23⟩
          rcases k with _ | k
          · cases h1
          simp only [law08_FileStays.l0] at h1
          refine CodT.of ?_ ha
          refine CodT.seq ?_
          refine CodT.seq ?_
          refine CodT.regionL [0, 1, 2, 3] (by kernel_rfl) ?_
          refine OpsT.pures (r := []) [0, 1, 2, 3] [1, 2, 3, 7, 8, 28] (S' := [(1, .slice A_a1 a1.length c_a1), (2, .int .i64 a2), (3, .pointer (some ⟨b1, 0, none⟩)), (7, .bool y3), (8, .int .i64 x14), (28, .bool (decide (x14 < (a1.length : Int))))]) (by kernel_rfl) ?_
          refine OpsT.done ?_
          refine Qn.then ?_
          by_cases hb24 : (decide (x14 < (a1.length : Int))) = true
          · rw [if_pos hb24] at h1
            refine CodT.yes' (b := decide (x14 < (a1.length : Int))) (by kernel_rfl) hb24 ?_
            refine CodT.skip ?_
            refine Qn.then ?_
            obtain ⟨r2, h2, h1⟩ := bindS h1
            refine CodT.meet (fun a w => ∃ (x27 : Int) (x28 : ByteArray) (x29 : ByteArray) (x30 : Bool) (x31 : Int) (x32 : (List ByteArray)) (Z25 : Hp) (A33 : Option Addr) (cp34 : Nat), .inr (x27, x28, x29, x30, x31, x32) = r2 ∧ Fr 113 [(1, .slice A_a1 a1.length c_a1), (2, .int .i64 a2), (3, .pointer (some ⟨b1, 0, none⟩)), (7, .bool y3), (8, .int .i64 x14)] a ∧ Inv w0 Z25 w (star (pt b1 (.cells ((([.int .i64 x27, .string x28, .string x29, .bool x30, .int .i64 x31, .slice A33 x32.length cp34] : List Value))).toArray 24 (0, 0))) A) ∧ Z12.le Z25 ∧ RdS Z25 cS 1 A33 cp34 x32) ?_ ?_
            ·
              refine CodT.block ?_
              refine CodT.seq ?_
              refine CodT.drawI (n := 7) [] (by kernel_rfl) (by kernel_rfl) hI ?_
              intro w hI
              refine GmT.p' 1 32 (.slice A_a1 a1.length c_a1) (by kernel_rfl) (by kernel_rfl) ?_
              refine GmT.p' 2 33 (.int .i64 x14) (by kernel_rfl) (by kernel_rfl) ?_
              refine GmT.r (i := 0) 2 (by kernel_rfl) (by kernel_rfl) (Yl.load (d := 31) (T := 24) (v := .agg ((([.int .i64 x15, .string x16, .string x17, .bool x18, .int .i64 x19, .slice A21 x20.length cp22] : List Value))).toArray) (by kernel_rfl) (ldBN ty24 (l := (([.int .i64 x15, .string x16, .string x17, .bool x18, .int .i64 x19, .slice A21 x20.length cp22] : List Value))) (o := 0) (cs := (([.int .i64 x15, .string x16, .string x17, .bool x18, .int .i64 x19, .slice A21 x20.length cp22] : List Value))) (ent_refl _) (by kernel_rfl) (whole _ _ (by kernel_rfl)))) hI ?_
              obtain ⟨hg36, h2⟩ := guardS h2
              obtain ⟨g37, o41, hA38, hr39, hl40⟩ := RdS.get (hr_a1.mono hle13) hg36.1 hg36.2
              refine GmT.r (i := 3) 2 (by kernel_rfl) (by kernel_rfl) (Yl.indexSlice (d := 34) (T := 25) (cc := c_a1) (k := .i64) (j := x14) (g := g37) (o := o41) (by kernel_rfl) Go.Proofs.Tryd.underlying25 ty31 hA38 hg36.1 hg36.2) hI ?_
              refine GmT.r (i := 4) 2 (by kernel_rfl) (by kernel_rfl) (Yl.load (d := 35) (T := 31) (v := .agg (c_ApiOp (gt a1 x14)).toArray) (by kernel_rfl) (ldRN ty31 (cs := c_ApiOp (gt a1 x14)) 0 (fun w hC => hr39 w0 w _ hC) hl40 (whole _ _ hl40))) hI ?_
              obtain ⟨y43, hc42, h2⟩ := bindS h2
              try dsimp only at h2
              refine GmT.o (i := 5) (by kernel_rfl) (Does.call (d := some 36) (n := 10) (vs := [.agg ((([.int .i64 x15, .string x16, .string x17, .bool x18, .int .i64 x19, .slice A21 x20.length cp22] : List Value))).toArray, .agg (c_ApiOp (gt a1 x14)).toArray]) (by kernel_rfl) en10 (c10 w0 w _ _ hI (hT.mono hle13) x15 x16 x17 x18 x19 A21 cp22 x20 hr23 (gt a1 x14) _ hc42) ?_)
              rintro e w ⟨rfl, hI⟩
              refine ⟨_, rfl, ?_⟩
              refine ⟨fun _ _ => hI, ?_⟩
              refine GmT.p' 6 9 (.bool y43) (by kernel_rfl) (by kernel_rfl) ?_
              refine GmT.done (by kernel_rfl) ?_
              refine Qn.then ?_
              refine CodT.seq ?_
              refine CodT.seq ?_
              refine CodT.regionL [0, 1] (by kernel_rfl) ?_
              refine OpsT.pures (r := []) [0, 1] [1, 2, 3, 7, 8, 38] (S' := [(1, .slice A_a1 a1.length c_a1), (2, .int .i64 a2), (3, .pointer (some ⟨b1, 0, none⟩)), (7, .bool y3), (8, .int .i64 x14), (38, .bool (!y43))]) (by kernel_rfl) ?_
              refine OpsT.done ?_
              refine Qn.then ?_
              by_cases hb44 : (!y43) = true
              · rw [if_pos hb44] at h2
                refine CodT.yes' (b := !y43) (by kernel_rfl) hb44 ?_
                refine CodT.seq ?_
                refine CodT.regionL [0, 1] (by kernel_rfl) ?_
                refine OpsT.pures (r := []) [0, 1] [6] (S' := [(6, .bool y3)]) (by kernel_rfl) ?_
                refine OpsT.done ?_
                refine Qn.then ?_
                refine CodT.ret ?_
                refine Qn.ret_then ?_
                refine Qn.block_ret ?_
                refine Qn.ret_then ?_
                refine Qn.ret_then ?_
                refine Qn.block_ret ?_
                refine Qn.ret_then ?_
                refine Qn.ret_then ?_
                have hI := hI.drop
                have e := someS h2
                subst e
                try dsimp only at h1
                have e := someS h1
                subst e
                try dsimp only at h0
                have e := someS h0
                subst e
                refine Qn.keep [6] (S' := [(6, .bool y3)]) (by kernel_rfl) ?_
                exact post_ret (v := .bool y3) (fun a ha => RunRes.run (vs := [.bool y3]) (.tmp (t := 6) (by kernel_rfl) .nil) ha (by kernel_rfl)) ⟨rfl, hI.weaken hle13⟩
              · rw [if_neg hb44] at h2
                refine CodT.no' (b := !y43) (by kernel_rfl) (by simpa using hb44) ?_
                refine CodT.skip ?_
                refine Qn.then ?_
                obtain ⟨r3, h3, h2⟩ := bindS h2
                refine CodT.meet (fun a w => ∃ (x48 : Int) (x49 : ByteArray) (x50 : ByteArray) (x51 : Bool) (x52 : Int) (x53 : (List ByteArray)) (x58 : ApiEvent) (x60 : Int) (Z45 : Hp) (b47 : Nat) (A54 : Option Addr) (cp55 : Nat) (b57 : Nat), (x48, x49, x50, x51, x52, x53, x58, x60) = r3 ∧ Fr 113 [(1, .slice A_a1 a1.length c_a1), (2, .int .i64 a2), (3, .pointer (some ⟨b1, 0, none⟩)), (7, .bool y3), (8, .int .i64 x14), (10, .pointer (some ⟨b47, 0, none⟩)), (11, .pointer (some ⟨b57, 0, none⟩)), (12, .int .i64 x60)] a ∧ Inv w0 Z45 w (star (pt b47 (.cells ((([.int .i64 x48, .string x49, .string x50, .bool x51, .int .i64 x52, .slice A54 x53.length cp55] : List Value))).toArray 24 (0, 0))) (star (pt b57 (.cells (c_ApiEvent x58).toArray 35 (0, 0))) (star (pt b1 (.cells ((([.int .i64 x15, .string x16, .string x17, .bool x18, .int .i64 x19, .slice A21 x20.length cp22] : List Value))).toArray 24 (0, 0))) A))) ∧ Z12.le Z45 ∧ RdS Z45 cS 1 A54 cp55 x53 ∧ x58.Sum.length = 32) ?_ ?_
                ·
                  refine CodT.drawI (n := 16) [13, 14] (by kernel_rfl) (by kernel_rfl) hI ?_
                  intro w hI
                  refine GmT.p' 1 42 (.slice A_a1 a1.length c_a1) (by kernel_rfl) (by kernel_rfl) ?_
                  refine GmT.p' 2 43 (.int .i64 x14) (by kernel_rfl) (by kernel_rfl) ?_
                  refine GmT.p' 5 46 (.int .i64 a2) (by kernel_rfl) (by kernel_rfl) ?_
                  refine GmT.r (i := 0) 2 (by kernel_rfl) (by kernel_rfl) (Yl.load (d := 41) (T := 24) (v := .agg ((([.int .i64 x15, .string x16, .string x17, .bool x18, .int .i64 x19, .slice A21 x20.length cp22] : List Value))).toArray) (by kernel_rfl) (ldBN ty24 (l := (([.int .i64 x15, .string x16, .string x17, .bool x18, .int .i64 x19, .slice A21 x20.length cp22] : List Value))) (o := 0) (cs := (([.int .i64 x15, .string x16, .string x17, .bool x18, .int .i64 x19, .slice A21 x20.length cp22] : List Value))) (ent_refl _) (by kernel_rfl) (whole _ _ (by kernel_rfl)))) hI ?_
                  obtain ⟨hg61, h3⟩ := guardS h3
                  obtain ⟨g62, o66, hA63, hr64, hl65⟩ := RdS.get (hr_a1.mono hle13) hg61.1 hg61.2
                  refine GmT.r (i := 3) 2 (by kernel_rfl) (by kernel_rfl) (Yl.indexSlice (d := 44) (T := 25) (cc := c_a1) (k := .i64) (j := x14) (g := g62) (o := o66) (by kernel_rfl) Go.Proofs.Tryd.underlying25 ty31 hA63 hg61.1 hg61.2) hI ?_
                  refine GmT.r (i := 4) 2 (by kernel_rfl) (by kernel_rfl) (Yl.load (d := 45) (T := 31) (v := .agg (c_ApiOp (gt a1 x14)).toArray) (by kernel_rfl) (ldRN ty31 (cs := c_ApiOp (gt a1 x14)) 0 (fun w hC => hr64 w0 w _ hC) hl65 (whole _ _ hl65))) hI ?_
                  refine GmT.several [6, 11, 12] (by kernel_rfl) rfl ?_
                  intro i hi; simp only [List.mem_cons, List.not_mem_nil, or_false] at hi; rcases hi with rfl | rfl | rfl
                  ·
                    obtain ⟨⟨y68, y69, y70, y71, y72, y73, y77, y79⟩, hc67, h3⟩ := bindS h3
                    try dsimp only at h3
                    rw [lst_set]
                    refine (Does.call (d := some 47) (n := 11) (vs := [.agg ((([.int .i64 x15, .string x16, .string x17, .bool x18, .int .i64 x19, .slice A21 x20.length cp22] : List Value))).toArray, .agg (c_ApiOp (gt a1 x14)).toArray, .int .i64 a2]) (by kernel_rfl) en11 (c11 w0 w _ _ hI (hT.mono hle13) x15 x16 x17 x18 x19 A21 cp22 x20 hr23 (gt a1 x14) a2 _ hc67) ?_)
                    rintro e w ⟨A74, cp75, Z80, hle81, rfl, hr76, hl78, hI⟩
                    refine ⟨_, rfl, ?_⟩
                    have hC := hI
                    have hC := hC.weaken hle81
                    refine ⟨fun _ _ => hC, ?_⟩
                    refine GmT.p' 7 40 (.tuple #[.agg ((([.int .i64 y68, .string y69, .string y70, .bool y71, .int .i64 y72, .slice A74 y73.length cp75] : List Value))).toArray, .agg (c_ApiEvent y77).toArray, .int .i64 y79]) (by kernel_rfl) (by kernel_rfl) ?_
                    refine GmT.p' 8 48 (.agg ((([.int .i64 y68, .string y69, .string y70, .bool y71, .int .i64 y72, .slice A74 y73.length cp75] : List Value))).toArray) (by kernel_rfl) (by kernel_rfl) ?_
                    refine GmT.p' 9 49 (.agg (c_ApiEvent y77).toArray) (by kernel_rfl) (by kernel_rfl) ?_
                    refine GmT.p' 10 50 (.int .i64 y79) (by kernel_rfl) (by kernel_rfl) ?_
                    refine GmT.several [11, 12] (by kernel_rfl) rfl ?_
                    intro i hi; simp only [List.mem_cons, List.not_mem_nil, or_false] at hi; rcases hi with rfl | rfl
                    ·
                      rw [lst_set]
                      refine (Does.allocL (d := 10) (T := 24) ((([.int .i64 0, .string (⟨#[]⟩ : ByteArray), .string (⟨#[]⟩ : ByteArray), .bool false, .int .i64 0, .slice none 0 0] : List Value))) (by kernel_rfl) ty24 hI (by kernel_rfl) ?_)
                      intro b82 w hI
                      have hC := hI
                      have hC := hC.drop
                      have hC := hC.weaken hle81
                      refine ⟨fun _ _ => hC, ?_⟩
                      refine GmT.o (i := 12) (by kernel_rfl) (Does.allocL (d := 11) (T := 35) (c_ApiEvent (ApiEvent.mk 0 0 (⟨#[]⟩ : ByteArray) 0 0 (List.replicate 32 (0 : Int)))) (by kernel_rfl) ty35 hI (by kernel_rfl) ?_)
                      intro b83 w hI
                      have hC := hI
                      have hC := hC.drop
                      have hC := hC.drop
                      have hC := hC.weaken hle81
                      refine ⟨fun _ _ => hC, ?_⟩
                      have hI := hI.mono (pick2 _ _ _)
                      refine GmT.o (i := 13) (by kernel_rfl) (Does.storeLit (T := 24) (b := b82) (o := 0) (v := .agg ((([.int .i64 y68, .string y69, .string y70, .bool y71, .int .i64 y72, .slice A74 y73.length cp75] : List Value))).toArray) (l := (([.int .i64 0, .string (⟨#[]⟩ : ByteArray), .string (⟨#[]⟩ : ByteArray), .bool false, .int .i64 0, .slice none 0 0] : List Value))) (vs := (([.int .i64 y68, .string y69, .string y70, .bool y71, .int .i64 y72, .slice A74 y73.length cp75] : List Value))) (L' := (([.int .i64 y68, .string y69, .string y70, .bool y71, .int .i64 y72, .slice A74 y73.length cp75] : List Value))) (by kernel_rfl) ty24 hI (by kernel_rfl) (by kernel_rfl) (by kernel_rfl) (by kernel_rfl) (by kernel_rfl) ?_)
                      intro w hI
                      refine ⟨fun h => absurd h (by decide), ?_⟩
                      have hI := hI.mono (pick2 _ _ _)
                      refine GmT.o (i := 14) (by kernel_rfl) (Does.storeLit (T := 35) (b := b83) (o := 0) (v := .agg (c_ApiEvent y77).toArray) (l := c_ApiEvent (ApiEvent.mk 0 0 (⟨#[]⟩ : ByteArray) 0 0 (List.replicate 32 (0 : Int)))) (vs := c_ApiEvent y77) (L' := c_ApiEvent y77) (by kernel_rfl) ty35 hI (by kernel_rfl) (len_ApiEvent _ hl78) (by rw [(len_ApiEvent _ (by kernel_rfl))]; kernel_rfl) (ones_app _ _ (by kernel_rfl) (ones_cA _)) (lset_all _ _ (Eq.trans (len_ApiEvent _ hl78) (Eq.symm (len_ApiEvent _ (by kernel_rfl))))) ?_)
                      intro w hI
                      refine ⟨fun h => absurd h (by decide), ?_⟩
                      refine GmT.p' 15 12 (.int .i64 y79) (by kernel_rfl) (by kernel_rfl) ?_
                      refine GmT.done (by kernel_rfl) ?_
                      have hI := hI.mono (pick3 _ _ _ _)
                      have hI := hI.mono (pick2 _ _ _)
                      have hI := hI.mono (pick3 _ _ _ _)
                      have e := someS h3
                      subst e
                      exact Qn.thenJ fun a ha => ⟨y68, y69, y70, y71, y72, y73, y77, y79, Z80, b82, A74, cp75, b83, rfl, ha.keep [1, 2, 3, 7, 8, 10, 11, 12] (by kernel_rfl), hI, hle81, hr76, hl78⟩
                    ·
                      rw [lst_set]
                      refine (Does.allocL (d := 11) (T := 35) (c_ApiEvent (ApiEvent.mk 0 0 (⟨#[]⟩ : ByteArray) 0 0 (List.replicate 32 (0 : Int)))) (by kernel_rfl) ty35 hI (by kernel_rfl) ?_)
                      intro b84 w hI
                      have hC := hI
                      have hC := hC.drop
                      have hC := hC.weaken hle81
                      refine ⟨fun _ _ => hC, ?_⟩
                      refine GmT.o (i := 11) (by kernel_rfl) (Does.allocL (d := 10) (T := 24) ((([.int .i64 0, .string (⟨#[]⟩ : ByteArray), .string (⟨#[]⟩ : ByteArray), .bool false, .int .i64 0, .slice none 0 0] : List Value))) (by kernel_rfl) ty24 hI (by kernel_rfl) ?_)
                      intro b85 w hI
                      have hC := hI
                      have hC := hC.drop
                      have hC := hC.drop
                      have hC := hC.weaken hle81
                      refine ⟨fun _ _ => hC, ?_⟩
                      refine GmT.o (i := 13) (by kernel_rfl) (Does.storeLit (T := 24) (b := b85) (o := 0) (v := .agg ((([.int .i64 y68, .string y69, .string y70, .bool y71, .int .i64 y72, .slice A74 y73.length cp75] : List Value))).toArray) (l := (([.int .i64 0, .string (⟨#[]⟩ : ByteArray), .string (⟨#[]⟩ : ByteArray), .bool false, .int .i64 0, .slice none 0 0] : List Value))) (vs := (([.int .i64 y68, .string y69, .string y70, .bool y71, .int .i64 y72, .slice A74 y73.length cp75] : List Value))) (L' := (([.int .i64 y68, .string y69, .string y70, .bool y71, .int .i64 y72, .slice A74 y73.length cp75] : List Value))) (by kernel_rfl) ty24 hI (by kernel_rfl) (by kernel_rfl) (by kernel_rfl) (by kernel_rfl) (by kernel_rfl) ?_)
                      intro w hI
                      refine ⟨fun h => absurd h (by decide), ?_⟩
                      have hI := hI.mono (pick2 _ _ _)
                      refine GmT.o (i := 14) (by kernel_rfl) (Does.storeLit (T := 35) (b := b84) (o := 0) (v := .agg (c_ApiEvent y77).toArray) (l := c_ApiEvent (ApiEvent.mk 0 0 (⟨#[]⟩ : ByteArray) 0 0 (List.replicate 32 (0 : Int)))) (vs := c_ApiEvent y77) (L' := c_ApiEvent y77) (by kernel_rfl) ty35 hI (by kernel_rfl) (len_ApiEvent _ hl78) (by rw [(len_ApiEvent _ (by kernel_rfl))]; kernel_rfl) (ones_app _ _ (by kernel_rfl) (ones_cA _)) (lset_all _ _ (Eq.trans (len_ApiEvent _ hl78) (Eq.symm (len_ApiEvent _ (by kernel_rfl))))) ?_)
                      intro w hI
                      refine ⟨fun h => absurd h (by decide), ?_⟩
                      refine GmT.p' 15 12 (.int .i64 y79) (by kernel_rfl) (by kernel_rfl) ?_
                      refine GmT.done (by kernel_rfl) ?_
                      have hI := hI.mono (pick3 _ _ _ _)
                      have hI := hI.mono (pick2 _ _ _)
                      have hI := hI.mono (pick3 _ _ _ _)
                      have e := someS h3
                      subst e
                      exact Qn.thenJ fun a ha => ⟨y68, y69, y70, y71, y72, y73, y77, y79, Z80, b85, A74, cp75, b84, rfl, ha.keep [1, 2, 3, 7, 8, 10, 11, 12] (by kernel_rfl), hI, hle81, hr76, hl78⟩
                  ·
                    rw [lst_set]
                    refine (Does.allocL (d := 10) (T := 24) ((([.int .i64 0, .string (⟨#[]⟩ : ByteArray), .string (⟨#[]⟩ : ByteArray), .bool false, .int .i64 0, .slice none 0 0] : List Value))) (by kernel_rfl) ty24 hI (by kernel_rfl) ?_)
                    intro b86 w hI
                    have hC := hI
                    have hC := hC.drop
                    refine ⟨fun _ _ => hC, ?_⟩
                    refine GmT.several [6, 12] (by kernel_rfl) rfl ?_
                    intro i hi; simp only [List.mem_cons, List.not_mem_nil, or_false] at hi; rcases hi with rfl | rfl
                    ·
                      obtain ⟨⟨y88, y89, y90, y91, y92, y93, y97, y99⟩, hc87, h3⟩ := bindS h3
                      try dsimp only at h3
                      rw [lst_set]
                      refine (Does.call (d := some 47) (n := 11) (vs := [.agg ((([.int .i64 x15, .string x16, .string x17, .bool x18, .int .i64 x19, .slice A21 x20.length cp22] : List Value))).toArray, .agg (c_ApiOp (gt a1 x14)).toArray, .int .i64 a2]) (by kernel_rfl) en11 (c11 w0 w _ _ hI (hT.mono hle13) x15 x16 x17 x18 x19 A21 cp22 x20 hr23 (gt a1 x14) a2 _ hc87) ?_)
                      rintro e w ⟨A94, cp95, Z100, hle101, rfl, hr96, hl98, hI⟩
                      refine ⟨_, rfl, ?_⟩
                      have hC := hI
                      have hC := hC.drop
                      have hC := hC.weaken hle101
                      refine ⟨fun _ _ => hC, ?_⟩
                      refine GmT.p' 7 40 (.tuple #[.agg ((([.int .i64 y88, .string y89, .string y90, .bool y91, .int .i64 y92, .slice A94 y93.length cp95] : List Value))).toArray, .agg (c_ApiEvent y97).toArray, .int .i64 y99]) (by kernel_rfl) (by kernel_rfl) ?_
                      refine GmT.p' 8 48 (.agg ((([.int .i64 y88, .string y89, .string y90, .bool y91, .int .i64 y92, .slice A94 y93.length cp95] : List Value))).toArray) (by kernel_rfl) (by kernel_rfl) ?_
                      refine GmT.p' 9 49 (.agg (c_ApiEvent y97).toArray) (by kernel_rfl) (by kernel_rfl) ?_
                      refine GmT.p' 10 50 (.int .i64 y99) (by kernel_rfl) (by kernel_rfl) ?_
                      refine GmT.o (i := 12) (by kernel_rfl) (Does.allocL (d := 11) (T := 35) (c_ApiEvent (ApiEvent.mk 0 0 (⟨#[]⟩ : ByteArray) 0 0 (List.replicate 32 (0 : Int)))) (by kernel_rfl) ty35 hI (by kernel_rfl) ?_)
                      intro b102 w hI
                      have hC := hI
                      have hC := hC.drop
                      have hC := hC.drop
                      have hC := hC.weaken hle101
                      refine ⟨fun _ _ => hC, ?_⟩
                      have hI := hI.mono (pick2 _ _ _)
                      refine GmT.o (i := 13) (by kernel_rfl) (Does.storeLit (T := 24) (b := b86) (o := 0) (v := .agg ((([.int .i64 y88, .string y89, .string y90, .bool y91, .int .i64 y92, .slice A94 y93.length cp95] : List Value))).toArray) (l := (([.int .i64 0, .string (⟨#[]⟩ : ByteArray), .string (⟨#[]⟩ : ByteArray), .bool false, .int .i64 0, .slice none 0 0] : List Value))) (vs := (([.int .i64 y88, .string y89, .string y90, .bool y91, .int .i64 y92, .slice A94 y93.length cp95] : List Value))) (L' := (([.int .i64 y88, .string y89, .string y90, .bool y91, .int .i64 y92, .slice A94 y93.length cp95] : List Value))) (by kernel_rfl) ty24 hI (by kernel_rfl) (by kernel_rfl) (by kernel_rfl) (by kernel_rfl) (by kernel_rfl) ?_)
                      intro w hI
                      refine ⟨fun h => absurd h (by decide), ?_⟩
                      have hI := hI.mono (pick2 _ _ _)
                      refine GmT.o (i := 14) (by kernel_rfl) (Does.storeLit (T := 35) (b := b102) (o := 0) (v := .agg (c_ApiEvent y97).toArray) (l := c_ApiEvent (ApiEvent.mk 0 0 (⟨#[]⟩ : ByteArray) 0 0 (List.replicate 32 (0 : Int)))) (vs := c_ApiEvent y97) (L' := c_ApiEvent y97) (by kernel_rfl) ty35 hI (by kernel_rfl) (len_ApiEvent _ hl98) (by rw [(len_ApiEvent _ (by kernel_rfl))]; kernel_rfl) (ones_app _ _ (by kernel_rfl) (ones_cA _)) (lset_all _ _ (Eq.trans (len_ApiEvent _ hl98) (Eq.symm (len_ApiEvent _ (by kernel_rfl))))) ?_)
                      intro w hI
                      refine ⟨fun h => absurd h (by decide), ?_⟩
                      refine GmT.p' 15 12 (.int .i64 y99) (by kernel_rfl) (by kernel_rfl) ?_
                      refine GmT.done (by kernel_rfl) ?_
                      have hI := hI.mono (pick3 _ _ _ _)
                      have hI := hI.mono (pick2 _ _ _)
                      have hI := hI.mono (pick3 _ _ _ _)
                      have e := someS h3
                      subst e
                      exact Qn.thenJ fun a ha => ⟨y88, y89, y90, y91, y92, y93, y97, y99, Z100, b86, A94, cp95, b102, rfl, ha.keep [1, 2, 3, 7, 8, 10, 11, 12] (by kernel_rfl), hI, hle101, hr96, hl98⟩
                    ·
                      rw [lst_set]
                      refine (Does.allocL (d := 11) (T := 35) (c_ApiEvent (ApiEvent.mk 0 0 (⟨#[]⟩ : ByteArray) 0 0 (List.replicate 32 (0 : Int)))) (by kernel_rfl) ty35 hI (by kernel_rfl) ?_)
                      intro b103 w hI
                      have hC := hI
                      have hC := hC.drop
                      have hC := hC.drop
                      refine ⟨fun _ _ => hC, ?_⟩
                      obtain ⟨⟨y105, y106, y107, y108, y109, y110, y114, y116⟩, hc104, h3⟩ := bindS h3
                      try dsimp only at h3
                      refine GmT.o (i := 6) (by kernel_rfl) (Does.call (d := some 47) (n := 11) (vs := [.agg ((([.int .i64 x15, .string x16, .string x17, .bool x18, .int .i64 x19, .slice A21 x20.length cp22] : List Value))).toArray, .agg (c_ApiOp (gt a1 x14)).toArray, .int .i64 a2]) (by kernel_rfl) en11 (c11 w0 w _ _ hI (hT.mono hle13) x15 x16 x17 x18 x19 A21 cp22 x20 hr23 (gt a1 x14) a2 _ hc104) ?_)
                      rintro e w ⟨A111, cp112, Z117, hle118, rfl, hr113, hl115, hI⟩
                      refine ⟨_, rfl, ?_⟩
                      have hC := hI
                      have hC := hC.drop
                      have hC := hC.drop
                      have hC := hC.weaken hle118
                      refine ⟨fun _ _ => hC, ?_⟩
                      refine GmT.p' 7 40 (.tuple #[.agg ((([.int .i64 y105, .string y106, .string y107, .bool y108, .int .i64 y109, .slice A111 y110.length cp112] : List Value))).toArray, .agg (c_ApiEvent y114).toArray, .int .i64 y116]) (by kernel_rfl) (by kernel_rfl) ?_
                      refine GmT.p' 8 48 (.agg ((([.int .i64 y105, .string y106, .string y107, .bool y108, .int .i64 y109, .slice A111 y110.length cp112] : List Value))).toArray) (by kernel_rfl) (by kernel_rfl) ?_
                      refine GmT.p' 9 49 (.agg (c_ApiEvent y114).toArray) (by kernel_rfl) (by kernel_rfl) ?_
                      refine GmT.p' 10 50 (.int .i64 y116) (by kernel_rfl) (by kernel_rfl) ?_
                      have hI := hI.mono (pick2 _ _ _)
                      refine GmT.o (i := 13) (by kernel_rfl) (Does.storeLit (T := 24) (b := b86) (o := 0) (v := .agg ((([.int .i64 y105, .string y106, .string y107, .bool y108, .int .i64 y109, .slice A111 y110.length cp112] : List Value))).toArray) (l := (([.int .i64 0, .string (⟨#[]⟩ : ByteArray), .string (⟨#[]⟩ : ByteArray), .bool false, .int .i64 0, .slice none 0 0] : List Value))) (vs := (([.int .i64 y105, .string y106, .string y107, .bool y108, .int .i64 y109, .slice A111 y110.length cp112] : List Value))) (L' := (([.int .i64 y105, .string y106, .string y107, .bool y108, .int .i64 y109, .slice A111 y110.length cp112] : List Value))) (by kernel_rfl) ty24 hI (by kernel_rfl) (by kernel_rfl) (by kernel_rfl) (by kernel_rfl) (by kernel_rfl) ?_)
                      intro w hI
                      refine ⟨fun h => absurd h (by decide), ?_⟩
                      have hI := hI.mono (pick2 _ _ _)
                      refine GmT.o (i := 14) (by kernel_rfl) (Does.storeLit (T := 35) (b := b103) (o := 0) (v := .agg (c_ApiEvent y114).toArray) (l := c_ApiEvent (ApiEvent.mk 0 0 (⟨#[]⟩ : ByteArray) 0 0 (List.replicate 32 (0 : Int)))) (vs := c_ApiEvent y114) (L' := c_ApiEvent y114) (by kernel_rfl) ty35 hI (by kernel_rfl) (len_ApiEvent _ hl115) (by rw [(len_ApiEvent _ (by kernel_rfl))]; kernel_rfl) (ones_app _ _ (by kernel_rfl) (ones_cA _)) (lset_all _ _ (Eq.trans (len_ApiEvent _ hl115) (Eq.symm (len_ApiEvent _ (by kernel_rfl))))) ?_)
                      intro w hI
                      refine ⟨fun h => absurd h (by decide), ?_⟩
                      refine GmT.p' 15 12 (.int .i64 y116) (by kernel_rfl) (by kernel_rfl) ?_
                      refine GmT.done (by kernel_rfl) ?_
                      have hI := hI.mono (pick3 _ _ _ _)
                      have hI := hI.mono (pick2 _ _ _)
                      have hI := hI.mono (pick3 _ _ _ _)
                      have e := someS h3
                      subst e
                      exact Qn.thenJ fun a ha => ⟨y105, y106, y107, y108, y109, y110, y114, y116, Z117, b86, A111, cp112, b103, rfl, ha.keep [1, 2, 3, 7, 8, 10, 11, 12] (by kernel_rfl), hI, hle118, hr113, hl115⟩
                  ·
                    rw [lst_set]
                    refine (Does.allocL (d := 11) (T := 35) (c_ApiEvent (ApiEvent.mk 0 0 (⟨#[]⟩ : ByteArray) 0 0 (List.replicate 32 (0 : Int)))) (by kernel_rfl) ty35 hI (by kernel_rfl) ?_)
                    intro b119 w hI
                    have hC := hI
                    have hC := hC.drop
                    refine ⟨fun _ _ => hC, ?_⟩
                    refine GmT.several [6, 11] (by kernel_rfl) rfl ?_
                    intro i hi; simp only [List.mem_cons, List.not_mem_nil, or_false] at hi; rcases hi with rfl | rfl
                    ·
                      obtain ⟨⟨y121, y122, y123, y124, y125, y126, y130, y132⟩, hc120, h3⟩ := bindS h3
                      try dsimp only at h3
                      rw [lst_set]
                      refine (Does.call (d := some 47) (n := 11) (vs := [.agg ((([.int .i64 x15, .string x16, .string x17, .bool x18, .int .i64 x19, .slice A21 x20.length cp22] : List Value))).toArray, .agg (c_ApiOp (gt a1 x14)).toArray, .int .i64 a2]) (by kernel_rfl) en11 (c11 w0 w _ _ hI (hT.mono hle13) x15 x16 x17 x18 x19 A21 cp22 x20 hr23 (gt a1 x14) a2 _ hc120) ?_)
                      rintro e w ⟨A127, cp128, Z133, hle134, rfl, hr129, hl131, hI⟩
                      refine ⟨_, rfl, ?_⟩
                      have hC := hI
                      have hC := hC.drop
                      have hC := hC.weaken hle134
                      refine ⟨fun _ _ => hC, ?_⟩
                      refine GmT.p' 7 40 (.tuple #[.agg ((([.int .i64 y121, .string y122, .string y123, .bool y124, .int .i64 y125, .slice A127 y126.length cp128] : List Value))).toArray, .agg (c_ApiEvent y130).toArray, .int .i64 y132]) (by kernel_rfl) (by kernel_rfl) ?_
                      refine GmT.p' 8 48 (.agg ((([.int .i64 y121, .string y122, .string y123, .bool y124, .int .i64 y125, .slice A127 y126.length cp128] : List Value))).toArray) (by kernel_rfl) (by kernel_rfl) ?_
                      refine GmT.p' 9 49 (.agg (c_ApiEvent y130).toArray) (by kernel_rfl) (by kernel_rfl) ?_
                      refine GmT.p' 10 50 (.int .i64 y132) (by kernel_rfl) (by kernel_rfl) ?_
                      refine GmT.o (i := 11) (by kernel_rfl) (Does.allocL (d := 10) (T := 24) ((([.int .i64 0, .string (⟨#[]⟩ : ByteArray), .string (⟨#[]⟩ : ByteArray), .bool false, .int .i64 0, .slice none 0 0] : List Value))) (by kernel_rfl) ty24 hI (by kernel_rfl) ?_)
                      intro b135 w hI
                      have hC := hI
                      have hC := hC.drop
                      have hC := hC.drop
                      have hC := hC.weaken hle134
                      refine ⟨fun _ _ => hC, ?_⟩
                      refine GmT.o (i := 13) (by kernel_rfl) (Does.storeLit (T := 24) (b := b135) (o := 0) (v := .agg ((([.int .i64 y121, .string y122, .string y123, .bool y124, .int .i64 y125, .slice A127 y126.length cp128] : List Value))).toArray) (l := (([.int .i64 0, .string (⟨#[]⟩ : ByteArray), .string (⟨#[]⟩ : ByteArray), .bool false, .int .i64 0, .slice none 0 0] : List Value))) (vs := (([.int .i64 y121, .string y122, .string y123, .bool y124, .int .i64 y125, .slice A127 y126.length cp128] : List Value))) (L' := (([.int .i64 y121, .string y122, .string y123, .bool y124, .int .i64 y125, .slice A127 y126.length cp128] : List Value))) (by kernel_rfl) ty24 hI (by kernel_rfl) (by kernel_rfl) (by kernel_rfl) (by kernel_rfl) (by kernel_rfl) ?_)
                      intro w hI
                      refine ⟨fun h => absurd h (by decide), ?_⟩
                      have hI := hI.mono (pick2 _ _ _)
                      refine GmT.o (i := 14) (by kernel_rfl) (Does.storeLit (T := 35) (b := b119) (o := 0) (v := .agg (c_ApiEvent y130).toArray) (l := c_ApiEvent (ApiEvent.mk 0 0 (⟨#[]⟩ : ByteArray) 0 0 (List.replicate 32 (0 : Int)))) (vs := c_ApiEvent y130) (L' := c_ApiEvent y130) (by kernel_rfl) ty35 hI (by kernel_rfl) (len_ApiEvent _ hl131) (by rw [(len_ApiEvent _ (by kernel_rfl))]; kernel_rfl) (ones_app _ _ (by kernel_rfl) (ones_cA _)) (lset_all _ _ (Eq.trans (len_ApiEvent _ hl131) (Eq.symm (len_ApiEvent _ (by kernel_rfl))))) ?_)
                      intro w hI
                      refine ⟨fun h => absurd h (by decide), ?_⟩
                      refine GmT.p' 15 12 (.int .i64 y132) (by kernel_rfl) (by kernel_rfl) ?_
                      refine GmT.done (by kernel_rfl) ?_
                      have hI := hI.mono (pick3 _ _ _ _)
                      have hI := hI.mono (pick2 _ _ _)
                      have hI := hI.mono (pick3 _ _ _ _)
                      have e := someS h3
                      subst e
                      exact Qn.thenJ fun a ha => ⟨y121, y122, y123, y124, y125, y126, y130, y132, Z133, b135, A127, cp128, b119, rfl, ha.keep [1, 2, 3, 7, 8, 10, 11, 12] (by kernel_rfl), hI, hle134, hr129, hl131⟩
                    ·
                      rw [lst_set]
                      refine (Does.allocL (d := 10) (T := 24) ((([.int .i64 0, .string (⟨#[]⟩ : ByteArray), .string (⟨#[]⟩ : ByteArray), .bool false, .int .i64 0, .slice none 0 0] : List Value))) (by kernel_rfl) ty24 hI (by kernel_rfl) ?_)
                      intro b136 w hI
                      have hC := hI
                      have hC := hC.drop
                      have hC := hC.drop
                      refine ⟨fun _ _ => hC, ?_⟩
                      obtain ⟨⟨y138, y139, y140, y141, y142, y143, y147, y149⟩, hc137, h3⟩ := bindS h3
                      try dsimp only at h3
                      refine GmT.o (i := 6) (by kernel_rfl) (Does.call (d := some 47) (n := 11) (vs := [.agg ((([.int .i64 x15, .string x16, .string x17, .bool x18, .int .i64 x19, .slice A21 x20.length cp22] : List Value))).toArray, .agg (c_ApiOp (gt a1 x14)).toArray, .int .i64 a2]) (by kernel_rfl) en11 (c11 w0 w _ _ hI (hT.mono hle13) x15 x16 x17 x18 x19 A21 cp22 x20 hr23 (gt a1 x14) a2 _ hc137) ?_)
                      rintro e w ⟨A144, cp145, Z150, hle151, rfl, hr146, hl148, hI⟩
                      refine ⟨_, rfl, ?_⟩
                      have hC := hI
                      have hC := hC.drop
                      have hC := hC.drop
                      have hC := hC.weaken hle151
                      refine ⟨fun _ _ => hC, ?_⟩
                      refine GmT.p' 7 40 (.tuple #[.agg ((([.int .i64 y138, .string y139, .string y140, .bool y141, .int .i64 y142, .slice A144 y143.length cp145] : List Value))).toArray, .agg (c_ApiEvent y147).toArray, .int .i64 y149]) (by kernel_rfl) (by kernel_rfl) ?_
                      refine GmT.p' 8 48 (.agg ((([.int .i64 y138, .string y139, .string y140, .bool y141, .int .i64 y142, .slice A144 y143.length cp145] : List Value))).toArray) (by kernel_rfl) (by kernel_rfl) ?_
                      refine GmT.p' 9 49 (.agg (c_ApiEvent y147).toArray) (by kernel_rfl) (by kernel_rfl) ?_
                      refine GmT.p' 10 50 (.int .i64 y149) (by kernel_rfl) (by kernel_rfl) ?_
                      refine GmT.o (i := 13) (by kernel_rfl) (Does.storeLit (T := 24) (b := b136) (o := 0) (v := .agg ((([.int .i64 y138, .string y139, .string y140, .bool y141, .int .i64 y142, .slice A144 y143.length cp145] : List Value))).toArray) (l := (([.int .i64 0, .string (⟨#[]⟩ : ByteArray), .string (⟨#[]⟩ : ByteArray), .bool false, .int .i64 0, .slice none 0 0] : List Value))) (vs := (([.int .i64 y138, .string y139, .string y140, .bool y141, .int .i64 y142, .slice A144 y143.length cp145] : List Value))) (L' := (([.int .i64 y138, .string y139, .string y140, .bool y141, .int .i64 y142, .slice A144 y143.length cp145] : List Value))) (by kernel_rfl) ty24 hI (by kernel_rfl) (by kernel_rfl) (by kernel_rfl) (by kernel_rfl) (by kernel_rfl) ?_)
                      intro w hI
                      refine ⟨fun h => absurd h (by decide), ?_⟩
                      have hI := hI.mono (pick2 _ _ _)
                      refine GmT.o (i := 14) (by kernel_rfl) (Does.storeLit (T := 35) (b := b119) (o := 0) (v := .agg (c_ApiEvent y147).toArray) (l := c_ApiEvent (ApiEvent.mk 0 0 (⟨#[]⟩ : ByteArray) 0 0 (List.replicate 32 (0 : Int)))) (vs := c_ApiEvent y147) (L' := c_ApiEvent y147) (by kernel_rfl) ty35 hI (by kernel_rfl) (len_ApiEvent _ hl148) (by rw [(len_ApiEvent _ (by kernel_rfl))]; kernel_rfl) (ones_app _ _ (by kernel_rfl) (ones_cA _)) (lset_all _ _ (Eq.trans (len_ApiEvent _ hl148) (Eq.symm (len_ApiEvent _ (by kernel_rfl))))) ?_)
                      intro w hI
                      refine ⟨fun h => absurd h (by decide), ?_⟩
                      refine GmT.p' 15 12 (.int .i64 y149) (by kernel_rfl) (by kernel_rfl) ?_
                      refine GmT.done (by kernel_rfl) ?_
                      have hI := hI.mono (pick3 _ _ _ _)
                      have hI := hI.mono (pick2 _ _ _)
                      have hI := hI.mono (pick3 _ _ _ _)
                      have e := someS h3
                      subst e
                      exact Qn.thenJ fun a ha => ⟨y138, y139, y140, y141, y142, y143, y147, y149, Z150, b136, A144, cp145, b119, rfl, ha.keep [1, 2, 3, 7, 8, 10, 11, 12] (by kernel_rfl), hI, hle151, hr146, hl148⟩
                ·
                  rintro a w ⟨x48, x49, x50, x51, x52, x53, x58, x60, Z45, b47, A54, cp55, b57, rfl, ha, hI, hle46, hr56, hl59⟩
                  try dsimp only at h2
                  refine CodT.of ?_ ha
                  refine CodT.seq ?_
                  refine CodT.seq ?_
                  refine CodT.regionL [0, 1] (by kernel_rfl) ?_
                  refine OpsT.pures (r := []) [0, 1] [1, 2, 3, 7, 8, 10, 11, 52] (S' := [(1, .slice A_a1 a1.length c_a1), (2, .int .i64 a2), (3, .pointer (some ⟨b1, 0, none⟩)), (7, .bool y3), (8, .int .i64 x14), (10, .pointer (some ⟨b47, 0, none⟩)), (11, .pointer (some ⟨b57, 0, none⟩)), (52, .bool (x60 != 0))]) (by kernel_rfl) ?_
                  refine OpsT.done ?_
                  refine Qn.then ?_
                  by_cases hb152 : (x60 != 0) = true
                  · rw [if_pos hb152] at h2
                    refine CodT.yes' (b := x60 != 0) (by kernel_rfl) hb152 ?_
                    refine CodT.seq ?_
                    obtain ⟨r3, h3, h2⟩ := bindS h2
                    refine CodT.meet (fun a w => ∃ (x153 : Bool), x153 = r3 ∧ Fr 113 [(1, .slice A_a1 a1.length c_a1), (2, .int .i64 a2), (3, .pointer (some ⟨b1, 0, none⟩)), (7, .bool y3), (8, .int .i64 x14), (61, .bool x153)] a ∧ Inv w0 Z45 w (star (pt b1 (.cells ((([.int .i64 x15, .string x16, .string x17, .bool x18, .int .i64 x19, .slice A21 x20.length cp22] : List Value))).toArray 24 (0, 0))) A)) ?_ ?_
                    ·
                      refine CodT.regionL [0, 1, 2, 3, 4, 5, 6, 7, 8] (by kernel_rfl) ?_
                      refine OpsT.cons (Does.yi (Yl.load (d := 53) (T := 24) (v := .agg ((([.int .i64 x48, .string x49, .string x50, .bool x51, .int .i64 x52, .slice A54 x53.length cp55] : List Value))).toArray) (by kernel_rfl) (ldBN ty24 (l := (([.int .i64 x48, .string x49, .string x50, .bool x51, .int .i64 x52, .slice A54 x53.length cp55] : List Value))) (o := 0) (cs := (([.int .i64 x48, .string x49, .string x50, .bool x51, .int .i64 x52, .slice A54 x53.length cp55] : List Value))) (ent_refl _) (by kernel_rfl) (whole _ _ (by kernel_rfl)))) hI ?_)
                      refine OpsT.cons (Does.yi (Yl.load (d := 54) (T := 24) (v := .agg ((([.int .i64 x15, .string x16, .string x17, .bool x18, .int .i64 x19, .slice A21 x20.length cp22] : List Value))).toArray) (by kernel_rfl) (ldBN ty24 (l := (([.int .i64 x15, .string x16, .string x17, .bool x18, .int .i64 x19, .slice A21 x20.length cp22] : List Value))) (o := 0) (cs := (([.int .i64 x15, .string x16, .string x17, .bool x18, .int .i64 x19, .slice A21 x20.length cp22] : List Value))) (pick3 _ _ _ _) (by kernel_rfl) (whole _ _ (by kernel_rfl)))) hI ?_)
                      obtain ⟨y155, hc154, h3⟩ := bindS h3
                      try dsimp only at h3
                      refine OpsT.cons (Does.call (d := some 55) (n := 12) (vs := [.agg ((([.int .i64 x48, .string x49, .string x50, .bool x51, .int .i64 x52, .slice A54 x53.length cp55] : List Value))).toArray, .agg ((([.int .i64 x15, .string x16, .string x17, .bool x18, .int .i64 x19, .slice A21 x20.length cp22] : List Value))).toArray]) (by kernel_rfl) en12 (c12 w0 w _ _ hI (hT.mono (Hp.le_trans hle13 hle46)) x48 x49 x50 x51 x52 A54 cp55 x53 hr56 x15 x16 x17 x18 x19 A21 cp22 x20 (hr23.mono hle46) _ hc154) ?_)
                      rintro e w ⟨rfl, hI⟩
                      refine ⟨_, rfl, ?_⟩
                      refine OpsT.pures (r := [5, 6, 7, 8]) [3, 4] [1, 2, 3, 7, 8, 11, 57] (S' := [(1, .slice A_a1 a1.length c_a1), (2, .int .i64 a2), (3, .pointer (some ⟨b1, 0, none⟩)), (7, .bool y3), (8, .int .i64 x14), (11, .pointer (some ⟨b57, 0, none⟩)), (57, .bool (!y155))]) (by kernel_rfl) ?_
                      by_cases hb156 : (!y155) = true
                      · rw [if_pos hb156] at h3
                        refine OpsT.keep [1, 2, 3, 7, 8, 11, 57] (S' := [(1, .slice A_a1 a1.length c_a1), (2, .int .i64 a2), (3, .pointer (some ⟨b1, 0, none⟩)), (7, .bool y3), (8, .int .i64 x14), (11, .pointer (some ⟨b57, 0, none⟩)), (57, .bool true)]) (by (try simp only [hb156]); kernel_rfl) ?_
                        refine OpsT.pures (r := []) [5, 6, 7, 8] [1, 2, 3, 7, 8, 61] (S' := [(1, .slice A_a1 a1.length c_a1), (2, .int .i64 a2), (3, .pointer (some ⟨b1, 0, none⟩)), (7, .bool y3), (8, .int .i64 x14), (61, .bool true)]) (by kernel_rfl) ?_
                        refine OpsT.done ?_
                        have hI := hI.drop
                        have hI := hI.drop
                        have e := someS h3
                        subst e
                        exact Qn.thenJ fun a ha => ⟨true, rfl, ha.keep [1, 2, 3, 7, 8, 61] (by kernel_rfl), hI⟩
                      · rw [if_neg hb156] at h3
                        have hb156 : (!y155) = false := by simpa using hb156
                        refine OpsT.keep [1, 2, 3, 7, 8, 11, 57] (S' := [(1, .slice A_a1 a1.length c_a1), (2, .int .i64 a2), (3, .pointer (some ⟨b1, 0, none⟩)), (7, .bool y3), (8, .int .i64 x14), (11, .pointer (some ⟨b57, 0, none⟩)), (57, .bool false)]) (by (try simp only [hb156]); kernel_rfl) ?_
                        refine OpsT.cons (Does.yi (Yl.load (d := 58) (T := 35) (v := .agg (c_ApiEvent x58).toArray) (by kernel_rfl) (ldBN ty35 (l := c_ApiEvent x58) (o := 0) (cs := c_ApiEvent x58) (pick2 _ _ _) (len_ApiEvent _ hl59) (whole _ _ (len_ApiEvent _ hl59)))) hI ?_)
                        refine OpsT.pures (r := [7, 8]) [6] [1, 2, 3, 7, 8, 57, 58, 59] (S' := [(1, .slice A_a1 a1.length c_a1), (2, .int .i64 a2), (3, .pointer (some ⟨b1, 0, none⟩)), (7, .bool y3), (8, .int .i64 x14), (57, .bool false), (58, .agg (c_ApiEvent x58).toArray), (59, .agg (c_ApiEvent (ApiEvent.mk 0 0 (⟨#[]⟩ : ByteArray) 0 0 (List.replicate 32 (0 : Int)))).toArray)]) (by kernel_rfl) ?_
                        refine OpsT.cons (Does.yi (Yl.neqS (d := 60) (T := 35) (xs := ([.int .i64 x58.Kind, .int .i64 x58.ID, .string x58.Name, .int .i64 x58.Time, .int .i64 x58.Len] : List Value) ++ (cA (Value.int .u8) x58.Sum)) (ys := ([.int .i64 0, .int .i64 0, .string (⟨#[]⟩ : ByteArray), .int .i64 0, .int .i64 0] : List Value) ++ (cA (Value.int .u8) (List.replicate 32 (0 : Int)))) (r := eq_ApiEvent x58 (ApiEvent.mk 0 0 (⟨#[]⟩ : ByteArray) 0 0 (List.replicate 32 (0 : Int)))) (by kernel_rfl) Go.Proofs.Tryd.underlying35 (by kernel_rfl) (by kernel_rfl) (.cons rfl (part1 (v := .int .i64 x58.Kind) ty29 (by kernel_rfl)) (part1 (v := .int .i64 0) ty29 (by kernel_rfl)) (eqI Go.Proofs.Tryd.underlying29) (.cons rfl (part1 (v := .int .i64 x58.ID) ty3 (by kernel_rfl)) (part1 (v := .int .i64 0) ty3 (by kernel_rfl)) (eqI Go.Proofs.Tryd.underlying3) (.cons rfl (part1 (v := .string x58.Name) ty9 (by kernel_rfl)) (part1 (v := .string (⟨#[]⟩ : ByteArray)) ty9 (by kernel_rfl)) (eqS Go.Proofs.Tryd.underlying9) (.cons rfl (part1 (v := .int .i64 x58.Time) ty3 (by kernel_rfl)) (part1 (v := .int .i64 0) ty3 (by kernel_rfl)) (eqI Go.Proofs.Tryd.underlying3) (.cons rfl (part1 (v := .int .i64 x58.Len) ty3 (by kernel_rfl)) (part1 (v := .int .i64 0) ty3 (by kernel_rfl)) (eqI Go.Proofs.Tryd.underlying3) (.cons rfl (partN ty33 (tail_take _ _ _ _ _ (by kernel_rfl) hl59)) (partN ty33 (tail_take _ _ _ _ _ (by kernel_rfl) (by kernel_rfl))) (eqAr Go.Proofs.Tryd.underlying33 Go.Proofs.Tryd.underlying5 ty5 hl59 (by kernel_rfl)) .nil))))))) hI ?_)
                        refine OpsT.pures (r := []) [8] [1, 2, 3, 7, 8, 61] (S' := [(1, .slice A_a1 a1.length c_a1), (2, .int .i64 a2), (3, .pointer (some ⟨b1, 0, none⟩)), (7, .bool y3), (8, .int .i64 x14), (61, .bool (!(eq_ApiEvent x58 (ApiEvent.mk 0 0 (⟨#[]⟩ : ByteArray) 0 0 (List.replicate 32 (0 : Int))))))]) (by kernel_rfl) ?_
                        refine OpsT.done ?_
                        have hI := hI.drop
                        have hI := hI.drop
                        have e := someS h3
                        subst e
                        exact Qn.thenJ fun a ha => ⟨!(eq_ApiEvent x58 (ApiEvent.mk 0 0 (⟨#[]⟩ : ByteArray) 0 0 (List.replicate 32 (0 : Int)))), rfl, ha.keep [1, 2, 3, 7, 8, 61] (by kernel_rfl), hI⟩
                    ·
                      rintro a w ⟨x153, rfl, ha, hI⟩
                      try dsimp only at h2
                      refine CodT.of ?_ ha
                      by_cases hb157 : x153 = true
                      · rw [if_pos hb157] at h2
                        refine CodT.yes' (b := x153) (by kernel_rfl) hb157 ?_
                        refine CodT.seq ?_
                        refine CodT.regionL [0] (by kernel_rfl) ?_
                        refine OpsT.pures (r := []) [0] [6] (S' := [(6, .bool false)]) (by kernel_rfl) ?_
                        refine OpsT.done ?_
                        refine Qn.then ?_
                        refine CodT.ret ?_
                        refine Qn.ret_then ?_
                        refine Qn.ret_then ?_
                        refine Qn.block_ret ?_
                        refine Qn.ret_then ?_
                        refine Qn.ret_then ?_
                        refine Qn.block_ret ?_
                        refine Qn.ret_then ?_
                        refine Qn.ret_then ?_
                        have hI := hI.drop
                        have e := someS h2
                        subst e
                        try dsimp only at h1
                        have e := someS h1
                        subst e
                        try dsimp only at h0
                        have e := someS h0
                        subst e
                        refine Qn.keep [6] (S' := [(6, .bool false)]) (by kernel_rfl) ?_
                        exact post_ret (v := .bool false) (fun a ha => RunRes.run (vs := [.bool false]) (.tmp (t := 6) (by kernel_rfl) .nil) ha (by kernel_rfl)) ⟨rfl, hI.weaken (Hp.le_trans hle13 hle46)⟩
                      · rw [if_neg hb157] at h2
                        refine CodT.no' (b := x153) (by kernel_rfl) (by simpa using hb157) ?_
                        refine CodT.skip ?_
                        refine Qn.then ?_
                        refine CodT.exit ?_
                        refine Qn.exit_then ?_
                        refine Qn.block ?_
                        have e := someS h2
                        subst e
                        exact Qn.thenJ fun a ha => ⟨x15, x16, x17, x18, x19, x20, Z45, A21, cp22, rfl, ha.keep [1, 2, 3, 7, 8] (by kernel_rfl), hI, hle46, (hr23.mono hle46)⟩
                  · rw [if_neg hb152] at h2
                    refine CodT.no' (b := x60 != 0) (by kernel_rfl) (by simpa using hb152) ?_
                    refine CodT.skip ?_
                    refine Qn.then ?_
                    refine CodT.seq ?_
                    obtain ⟨r3, h3, h2⟩ := bindS h2
                    refine CodT.meet (fun a w => ∃ (x158 : Bool), x158 = r3 ∧ Fr 113 [(1, .slice A_a1 a1.length c_a1), (2, .int .i64 a2), (3, .pointer (some ⟨b1, 0, none⟩)), (7, .bool y3), (8, .int .i64 x14), (10, .pointer (some ⟨b47, 0, none⟩)), (81, .bool x158)] a ∧ Inv w0 Z45 w (star (pt b47 (.cells ((([.int .i64 x48, .string x49, .string x50, .bool x51, .int .i64 x52, .slice A54 x53.length cp55] : List Value))).toArray 24 (0, 0))) (star (pt b1 (.cells ((([.int .i64 x15, .string x16, .string x17, .bool x18, .int .i64 x19, .slice A21 x20.length cp22] : List Value))).toArray 24 (0, 0))) A))) ?_ ?_
                    ·
                      refine CodT.drawI (n := 20) [] (by kernel_rfl) (by kernel_rfl) hI ?_
                      intro w hI
                      refine GmT.r (i := 0) 2 (by kernel_rfl) (by kernel_rfl) (Yl.load (d := 62) (T := 35) (v := .agg (c_ApiEvent x58).toArray) (by kernel_rfl) (ldBN ty35 (l := c_ApiEvent x58) (o := 0) (cs := c_ApiEvent x58) (pick2 _ _ _) (len_ApiEvent _ hl59) (whole _ _ (len_ApiEvent _ hl59)))) hI ?_
                      obtain ⟨y160, hc159, h3⟩ := bindS h3
                      try dsimp only at h3
                      refine GmT.o (i := 1) (by kernel_rfl) (Does.call (d := some 63) (n := 13) (vs := [.agg (c_ApiEvent x58).toArray]) (by kernel_rfl) en13 (c13 w0 w _ _ hI (hT.mono (Hp.le_trans hle13 hle46)) x58 hl59 _ hc159) ?_)
                      rintro e w ⟨rfl, hI⟩
                      refine ⟨_, rfl, ?_⟩
                      refine ⟨fun _ _ => hI, ?_⟩
                      refine GmT.p' 2 64 (.bool (!y160)) (by kernel_rfl) (by kernel_rfl) ?_
                      refine GmT.p' 3 65 (.bool (!y160)) (by kernel_rfl) (by kernel_rfl) ?_
                      by_cases hb161 : (!y160) = true
                      · rw [if_pos hb161] at h3
                        refine GmT.keep [1, 2, 3, 7, 8, 10, 11, 65] (S' := [(1, .slice A_a1 a1.length c_a1), (2, .int .i64 a2), (3, .pointer (some ⟨b1, 0, none⟩)), (7, .bool y3), (8, .int .i64 x14), (10, .pointer (some ⟨b47, 0, none⟩)), (11, .pointer (some ⟨b57, 0, none⟩)), (65, .bool true)]) (by (try simp only [hb161]); kernel_rfl) ?_
                        refine GmT.p' 4 66 (undef) (by kernel_rfl) (by kernel_rfl) ?_
                        refine GmT.p' 5 67 (undef) (by kernel_rfl) (by kernel_rfl) ?_
                        refine GmT.p' 6 68 (undef) (by kernel_rfl) (by kernel_rfl) ?_
                        refine GmT.p' 7 69 (undef) (by kernel_rfl) (by kernel_rfl) ?_
                        refine GmT.p' 8 70 (undef) (by kernel_rfl) (by kernel_rfl) ?_
                        refine GmT.p' 9 71 (.bool true) (by kernel_rfl) (by kernel_rfl) ?_
                        refine GmT.p' 10 72 (.bool true) (by kernel_rfl) (by kernel_rfl) ?_
                        refine GmT.p' 11 73 (undef) (by kernel_rfl) (by kernel_rfl) ?_
                        refine GmT.p' 12 74 (undef) (by kernel_rfl) (by kernel_rfl) ?_
                        refine GmT.p' 13 75 (undef) (by kernel_rfl) (by kernel_rfl) ?_
                        refine GmT.p' 14 76 (undef) (by kernel_rfl) (by kernel_rfl) ?_
                        refine GmT.p' 15 77 (undef) (by kernel_rfl) (by kernel_rfl) ?_
                        refine GmT.p' 16 78 (undef) (by kernel_rfl) (by kernel_rfl) ?_
                        refine GmT.p' 17 79 (undef) (by kernel_rfl) (by kernel_rfl) ?_
                        refine GmT.p' 18 80 (undef) (by kernel_rfl) (by kernel_rfl) ?_
                        refine GmT.p' 19 81 (.bool true) (by kernel_rfl) (by kernel_rfl) ?_
                        refine GmT.done (by kernel_rfl) ?_
                        have hI := hI.mono (pick2 _ _ _)
                        have hI := hI.drop
                        have e := someS h3
                        subst e
                        exact Qn.thenJ fun a ha => ⟨true, rfl, ha.keep [1, 2, 3, 7, 8, 10, 81] (by kernel_rfl), hI⟩
                      · rw [if_neg hb161] at h3
                        have hb161 : (!y160) = false := by simpa using hb161
                        refine GmT.keep [1, 2, 3, 7, 8, 10, 11, 65] (S' := [(1, .slice A_a1 a1.length c_a1), (2, .int .i64 a2), (3, .pointer (some ⟨b1, 0, none⟩)), (7, .bool y3), (8, .int .i64 x14), (10, .pointer (some ⟨b47, 0, none⟩)), (11, .pointer (some ⟨b57, 0, none⟩)), (65, .bool false)]) (by (try simp only [hb161]); kernel_rfl) ?_
                        refine GmT.p' 4 66 (.pointer (some ⟨b57, 1, none⟩)) (by kernel_rfl) (by kernel_rfl) ?_
                        refine GmT.p' 6 68 (.pointer (some ⟨b1, 0, none⟩)) (by kernel_rfl) (by kernel_rfl) ?_
                        refine GmT.r (i := 5) 2 (by kernel_rfl) (by kernel_rfl) (Yl.load (d := 67) (T := 3) (v := .int .i64 x58.ID) (by kernel_rfl) (ldB ty3 (l := c_ApiEvent x58) (o := 1) (v := .int .i64 x58.ID) (pick2 _ _ _) (by kernel_rfl))) hI ?_
                        refine GmT.r (i := 7) 2 (by kernel_rfl) (by kernel_rfl) (Yl.load (d := 69) (T := 3) (v := .int .i64 x15) (by kernel_rfl) (ldB ty3 (l := (([.int .i64 x15, .string x16, .string x17, .bool x18, .int .i64 x19, .slice A21 x20.length cp22] : List Value))) (o := 0) (v := .int .i64 x15) (pick3 _ _ _ _) (by kernel_rfl))) hI ?_
                        refine GmT.p' 8 70 (.bool (x58.ID != x15)) (by kernel_rfl) (by kernel_rfl) ?_
                        refine GmT.p' 9 71 (.bool (x58.ID != x15)) (by kernel_rfl) (by kernel_rfl) ?_
                        refine GmT.p' 10 72 (.bool (x58.ID != x15)) (by kernel_rfl) (by kernel_rfl) ?_
                        by_cases hb162 : (x58.ID != x15) = true
                        · rw [if_pos hb162] at h3
                          refine GmT.keep [1, 2, 3, 7, 8, 10, 11, 72] (S' := [(1, .slice A_a1 a1.length c_a1), (2, .int .i64 a2), (3, .pointer (some ⟨b1, 0, none⟩)), (7, .bool y3), (8, .int .i64 x14), (10, .pointer (some ⟨b47, 0, none⟩)), (11, .pointer (some ⟨b57, 0, none⟩)), (72, .bool true)]) (by (try simp only [hb162]); kernel_rfl) ?_
                          refine GmT.p' 11 73 (undef) (by kernel_rfl) (by kernel_rfl) ?_
                          refine GmT.p' 12 74 (undef) (by kernel_rfl) (by kernel_rfl) ?_
                          refine GmT.p' 13 75 (undef) (by kernel_rfl) (by kernel_rfl) ?_
                          refine GmT.p' 14 76 (undef) (by kernel_rfl) (by kernel_rfl) ?_
                          refine GmT.p' 15 77 (undef) (by kernel_rfl) (by kernel_rfl) ?_
                          refine GmT.p' 16 78 (undef) (by kernel_rfl) (by kernel_rfl) ?_
                          refine GmT.p' 17 79 (undef) (by kernel_rfl) (by kernel_rfl) ?_
                          refine GmT.p' 18 80 (undef) (by kernel_rfl) (by kernel_rfl) ?_
                          refine GmT.p' 19 81 (.bool true) (by kernel_rfl) (by kernel_rfl) ?_
                          refine GmT.done (by kernel_rfl) ?_
                          have hI := hI.mono (pick2 _ _ _)
                          have hI := hI.drop
                          have e := someS h3
                          subst e
                          exact Qn.thenJ fun a ha => ⟨true, rfl, ha.keep [1, 2, 3, 7, 8, 10, 81] (by kernel_rfl), hI⟩
                        · rw [if_neg hb162] at h3
                          have hb162 : (x58.ID != x15) = false := by simpa using hb162
                          refine GmT.keep [1, 2, 3, 7, 8, 10, 11, 72] (S' := [(1, .slice A_a1 a1.length c_a1), (2, .int .i64 a2), (3, .pointer (some ⟨b1, 0, none⟩)), (7, .bool y3), (8, .int .i64 x14), (10, .pointer (some ⟨b47, 0, none⟩)), (11, .pointer (some ⟨b57, 0, none⟩)), (72, .bool false)]) (by (try simp only [hb162]); kernel_rfl) ?_
                          refine GmT.p' 11 73 (.pointer (some ⟨b57, 0, none⟩)) (by kernel_rfl) (by kernel_rfl) ?_
                          refine GmT.p' 13 75 (.slice A_a1 a1.length c_a1) (by kernel_rfl) (by kernel_rfl) ?_
                          refine GmT.p' 14 76 (.int .i64 x14) (by kernel_rfl) (by kernel_rfl) ?_
                          refine GmT.r (i := 12) 2 (by kernel_rfl) (by kernel_rfl) (Yl.load (d := 74) (T := 29) (v := .int .i64 x58.Kind) (by kernel_rfl) (ldB ty29 (l := c_ApiEvent x58) (o := 0) (v := .int .i64 x58.Kind) (pick2 _ _ _) (by kernel_rfl))) hI ?_
                          obtain ⟨hg163, h3⟩ := guardS h3
                          obtain ⟨g164, o168, hA165, hr166, hl167⟩ := RdS.get (hr_a1.mono (Hp.le_trans hle13 hle46)) hg163.1 hg163.2
                          refine GmT.r (i := 15) 2 (by kernel_rfl) (by kernel_rfl) (Yl.indexSlice (d := 77) (T := 25) (cc := c_a1) (k := .i64) (j := x14) (g := g164) (o := o168) (by kernel_rfl) Go.Proofs.Tryd.underlying25 ty31 hA165 hg163.1 hg163.2) hI ?_
                          refine GmT.p' 16 78 (.pointer (some ⟨g164, o168 + x14.toNat * 6, none⟩)) (by kernel_rfl) (by kernel_rfl) ?_
                          refine GmT.r (i := 17) 2 (by kernel_rfl) (by kernel_rfl) (Yl.load (d := 79) (T := 29) (v := .int .i64 ((gt a1 x14).Kind)) (by kernel_rfl) (ldR ty29 (v := .int .i64 ((gt a1 x14).Kind)) 0 (fun w hC => hr166 w0 w _ hC) (by kernel_rfl))) hI ?_
                          refine GmT.p' 18 80 (.bool (x58.Kind != ((gt a1 x14).Kind))) (by kernel_rfl) (by kernel_rfl) ?_
                          refine GmT.p' 19 81 (.bool (x58.Kind != ((gt a1 x14).Kind))) (by kernel_rfl) (by kernel_rfl) ?_
                          refine GmT.done (by kernel_rfl) ?_
                          have hI := hI.mono (pick2 _ _ _)
                          have hI := hI.drop
                          have e := someS h3
                          subst e
                          exact Qn.thenJ fun a ha => ⟨x58.Kind != ((gt a1 x14).Kind), rfl, ha.keep [1, 2, 3, 7, 8, 10, 81] (by kernel_rfl), hI⟩
                    ·
                      rintro a w ⟨x158, rfl, ha, hI⟩
                      try dsimp only at h2
                      refine CodT.of ?_ ha
                      by_cases hb169 : x158 = true
                      · rw [if_pos hb169] at h2
                        refine CodT.yes' (b := x158) (by kernel_rfl) hb169 ?_
                        refine CodT.seq ?_
                        refine CodT.regionL [0] (by kernel_rfl) ?_
                        refine OpsT.pures (r := []) [0] [6] (S' := [(6, .bool false)]) (by kernel_rfl) ?_
                        refine OpsT.done ?_
                        refine Qn.then ?_
                        refine CodT.ret ?_
                        refine Qn.ret_then ?_
                        refine Qn.block_ret ?_
                        refine Qn.ret_then ?_
                        refine Qn.ret_then ?_
                        refine Qn.block_ret ?_
                        refine Qn.ret_then ?_
                        refine Qn.ret_then ?_
                        have hI := hI.drop
                        have hI := hI.drop
                        have e := someS h2
                        subst e
                        try dsimp only at h1
                        have e := someS h1
                        subst e
                        try dsimp only at h0
                        have e := someS h0
                        subst e
                        refine Qn.keep [6] (S' := [(6, .bool false)]) (by kernel_rfl) ?_
                        exact post_ret (v := .bool false) (fun a ha => RunRes.run (vs := [.bool false]) (.tmp (t := 6) (by kernel_rfl) .nil) ha (by kernel_rfl)) ⟨rfl, hI.weaken (Hp.le_trans hle13 hle46)⟩
                      · rw [if_neg hb169] at h2
                        refine CodT.no' (b := x158) (by kernel_rfl) (by simpa using hb169) ?_
                        refine CodT.skip ?_
                        refine Qn.then ?_
                        refine CodT.seq ?_
                        refine CodT.seq ?_
                        refine CodT.regionL [0, 1, 2, 3, 4, 5] (by kernel_rfl) ?_
                        refine OpsT.pures (r := [2, 3, 4, 5]) [0, 1] [1, 2, 3, 7, 8, 10, 82, 83] (S' := [(1, .slice A_a1 a1.length c_a1), (2, .int .i64 a2), (3, .pointer (some ⟨b1, 0, none⟩)), (7, .bool y3), (8, .int .i64 x14), (10, .pointer (some ⟨b47, 0, none⟩)), (82, .slice A_a1 a1.length c_a1), (83, .int .i64 x14)]) (by kernel_rfl) ?_
                        obtain ⟨hg170, h2⟩ := guardS h2
                        obtain ⟨g171, o175, hA172, hr173, hl174⟩ := RdS.get (hr_a1.mono (Hp.le_trans hle13 hle46)) hg170.1 hg170.2
                        refine OpsT.cons (Does.yi (Yl.indexSlice (d := 84) (T := 25) (cc := c_a1) (k := .i64) (j := x14) (g := g171) (o := o175) (by kernel_rfl) Go.Proofs.Tryd.underlying25 ty31 hA172 hg170.1 hg170.2) hI ?_)
                        refine OpsT.pures (r := [4, 5]) [3] [1, 2, 3, 7, 8, 10, 85] (S' := [(1, .slice A_a1 a1.length c_a1), (2, .int .i64 a2), (3, .pointer (some ⟨b1, 0, none⟩)), (7, .bool y3), (8, .int .i64 x14), (10, .pointer (some ⟨b47, 0, none⟩)), (85, .pointer (some ⟨g171, o175 + x14.toNat * 6, none⟩))]) (by kernel_rfl) ?_
                        refine OpsT.cons (Does.yi (Yl.load (d := 86) (T := 29) (v := .int .i64 ((gt a1 x14).Kind)) (by kernel_rfl) (ldR ty29 (v := .int .i64 ((gt a1 x14).Kind)) 0 (fun w hC => hr173 w0 w _ hC) (by kernel_rfl))) hI ?_)
                        refine OpsT.pures (r := []) [5] [1, 2, 3, 7, 8, 10, 87] (S' := [(1, .slice A_a1 a1.length c_a1), (2, .int .i64 a2), (3, .pointer (some ⟨b1, 0, none⟩)), (7, .bool y3), (8, .int .i64 x14), (10, .pointer (some ⟨b47, 0, none⟩)), (87, .bool (((gt a1 x14).Kind) == 6))]) (by kernel_rfl) ?_
                        refine OpsT.done ?_
                        refine Qn.then ?_
                        by_cases hb176 : (((gt a1 x14).Kind) == 6) = true
                        · rw [if_pos hb176] at h2
                          refine CodT.yes' (b := ((gt a1 x14).Kind) == 6) (by kernel_rfl) hb176 ?_
                          obtain ⟨r3, h3, h2⟩ := bindS h2
                          refine CodT.meet (fun a w => ∃ (x177 : Bool), x177 = r3 ∧ Fr 113 [(6, .bool x177)] a ∧ Inv w0 Z45 w A) ?_ ?_
                          ·
                            refine CodT.regionL [0, 1, 2, 3, 4, 5, 6] (by kernel_rfl) ?_
                            refine OpsT.pures (r := [2, 3, 4, 5, 6]) [0, 1] [10, 89] (S' := [(10, .pointer (some ⟨b47, 0, none⟩)), (89, .bool y3)]) (by kernel_rfl) ?_
                            by_cases hb178 : y3 = true
                            · rw [if_pos hb178] at h3
                              refine OpsT.keep [10, 89] (S' := [(10, .pointer (some ⟨b47, 0, none⟩)), (89, .bool true)]) (by (try simp only [hb178]); kernel_rfl) ?_
                              refine OpsT.cons (Does.yi (Yl.load (d := 90) (T := 24) (v := .agg ((([.int .i64 x48, .string x49, .string x50, .bool x51, .int .i64 x52, .slice A54 x53.length cp55] : List Value))).toArray) (by kernel_rfl) (ldBN ty24 (l := (([.int .i64 x48, .string x49, .string x50, .bool x51, .int .i64 x52, .slice A54 x53.length cp55] : List Value))) (o := 0) (cs := (([.int .i64 x48, .string x49, .string x50, .bool x51, .int .i64 x52, .slice A54 x53.length cp55] : List Value))) (ent_refl _) (by kernel_rfl) (whole _ _ (by kernel_rfl)))) hI ?_)
                              refine OpsT.pures (r := [4, 5, 6]) [3] [89, 90, 91] (S' := [(89, .bool true), (90, .agg ((([.int .i64 x48, .string x49, .string x50, .bool x51, .int .i64 x52, .slice A54 x53.length cp55] : List Value))).toArray), (91, .agg ((([.int .i64 0, .string (⟨#[]⟩ : ByteArray), .string (⟨#[]⟩ : ByteArray), .bool false, .int .i64 0, .slice none 0 0] : List Value))).toArray)]) (by kernel_rfl) ?_
                              obtain ⟨y180, hc179, h3⟩ := bindS h3
                              try dsimp only at h3
                              refine OpsT.cons (Does.call (d := some 92) (n := 12) (vs := [.agg ((([.int .i64 x48, .string x49, .string x50, .bool x51, .int .i64 x52, .slice A54 x53.length cp55] : List Value))).toArray, .agg ((([.int .i64 0, .string (⟨#[]⟩ : ByteArray), .string (⟨#[]⟩ : ByteArray), .bool false, .int .i64 0, .slice none 0 0] : List Value))).toArray]) (by kernel_rfl) en12 (c12 w0 w _ _ hI (hT.mono (Hp.le_trans hle13 hle46)) x48 x49 x50 x51 x52 A54 cp55 x53 hr56 0 (⟨#[]⟩ : ByteArray) (⟨#[]⟩ : ByteArray) false 0 none 0 ([] : List ByteArray) (RdS.nil _ _ _ _ _ (Nat.zero_le _)) _ hc179) ?_)
                              rintro e w ⟨rfl, hI⟩
                              refine ⟨_, rfl, ?_⟩
                              refine OpsT.pures (r := []) [5, 6] [6] (S' := [(6, .bool y180)]) (by kernel_rfl) ?_
                              refine OpsT.done ?_
                              have hI := hI.drop
                              have hI := hI.drop
                              have e := someS h3
                              subst e
                              exact Qn.thenJ fun a ha => ⟨y180, rfl, ha.keep [6] (by kernel_rfl), hI⟩
                            · rw [if_neg hb178] at h3
                              have hb178 : y3 = false := by simpa using hb178
                              refine OpsT.keep [10, 89] (S' := [(10, .pointer (some ⟨b47, 0, none⟩)), (89, .bool false)]) (by (try simp only [hb178]); kernel_rfl) ?_
                              refine OpsT.pures (r := []) [2, 3, 4, 5, 6] [6] (S' := [(6, .bool false)]) (by kernel_rfl) ?_
                              refine OpsT.done ?_
                              have hI := hI.drop
                              have hI := hI.drop
                              have e := someS h3
                              subst e
                              exact Qn.thenJ fun a ha => ⟨false, rfl, ha.keep [6] (by kernel_rfl), hI⟩
                          ·
                            rintro a w ⟨x177, rfl, ha, hI⟩
                            try dsimp only at h2
                            refine CodT.of ?_ ha
                            refine CodT.ret ?_
                            refine Qn.ret_then ?_
                            refine Qn.block_ret ?_
                            refine Qn.ret_then ?_
                            refine Qn.ret_then ?_
                            refine Qn.block_ret ?_
                            refine Qn.ret_then ?_
                            refine Qn.ret_then ?_
                            have e := someS h2
                            subst e
                            try dsimp only at h1
                            have e := someS h1
                            subst e
                            try dsimp only at h0
                            have e := someS h0
                            subst e
                            refine Qn.keep [6] (S' := [(6, .bool x177)]) (by kernel_rfl) ?_
                            exact post_ret (v := .bool x177) (fun a ha => RunRes.run (vs := [.bool x177]) (.tmp (t := 6) (by kernel_rfl) .nil) ha (by kernel_rfl)) ⟨rfl, hI.weaken (Hp.le_trans hle13 hle46)⟩
                        · rw [if_neg hb176] at h2
                          refine CodT.no' (b := ((gt a1 x14).Kind) == 6) (by kernel_rfl) (by simpa using hb176) ?_
                          refine CodT.skip ?_
                          refine Qn.then ?_
                          refine CodT.seq ?_
                          obtain ⟨r3, h3, h2⟩ := bindS h2
                          refine CodT.meet (fun a w => ∃ (x181 : Bool), x181 = r3 ∧ Fr 113 [(1, .slice A_a1 a1.length c_a1), (2, .int .i64 a2), (3, .pointer (some ⟨b1, 0, none⟩)), (7, .bool y3), (8, .int .i64 x14), (10, .pointer (some ⟨b47, 0, none⟩)), (110, .bool x181)] a ∧ Inv w0 Z45 w (star (pt b47 (.cells ((([.int .i64 x48, .string x49, .string x50, .bool x51, .int .i64 x52, .slice A54 x53.length cp55] : List Value))).toArray 24 (0, 0))) (star (pt b1 (.cells ((([.int .i64 x15, .string x16, .string x17, .bool x18, .int .i64 x19, .slice A21 x20.length cp22] : List Value))).toArray 24 (0, 0))) A))) ?_ ?_
                          ·
                            refine CodT.regionL [0, 1, 2, 3, 4, 5, 6, 7, 8, 9, 10, 11, 12, 13, 14, 15, 16] (by kernel_rfl) ?_
                            refine OpsT.cons (Does.yi (Yl.load (d := 94) (T := 24) (v := .agg ((([.int .i64 x48, .string x49, .string x50, .bool x51, .int .i64 x52, .slice A54 x53.length cp55] : List Value))).toArray) (by kernel_rfl) (ldBN ty24 (l := (([.int .i64 x48, .string x49, .string x50, .bool x51, .int .i64 x52, .slice A54 x53.length cp55] : List Value))) (o := 0) (cs := (([.int .i64 x48, .string x49, .string x50, .bool x51, .int .i64 x52, .slice A54 x53.length cp55] : List Value))) (ent_refl _) (by kernel_rfl) (whole _ _ (by kernel_rfl)))) hI ?_)
                            obtain ⟨y183, hc182, h3⟩ := bindS h3
                            try dsimp only at h3
                            refine OpsT.cons (Does.call (d := some 95) (n := 9) (vs := [.agg ((([.int .i64 x48, .string x49, .string x50, .bool x51, .int .i64 x52, .slice A54 x53.length cp55] : List Value))).toArray]) (by kernel_rfl) en9 (c9 w0 w _ _ hI (hT.mono (Hp.le_trans hle13 hle46)) x48 x49 x50 x51 x52 A54 cp55 x53 hr56 _ hc182) ?_)
                            rintro e w ⟨rfl, hI⟩
                            refine ⟨_, rfl, ?_⟩
                            refine OpsT.pures (r := [4, 5, 6, 7, 8, 9, 10, 11, 12, 13, 14, 15, 16]) [2, 3] [1, 2, 3, 7, 8, 10, 97] (S' := [(1, .slice A_a1 a1.length c_a1), (2, .int .i64 a2), (3, .pointer (some ⟨b1, 0, none⟩)), (7, .bool y3), (8, .int .i64 x14), (10, .pointer (some ⟨b47, 0, none⟩)), (97, .bool (!y183))]) (by kernel_rfl) ?_
                            by_cases hb184 : (!y183) = true
                            · rw [if_pos hb184] at h3
                              refine OpsT.keep [1, 2, 3, 7, 8, 10, 97] (S' := [(1, .slice A_a1 a1.length c_a1), (2, .int .i64 a2), (3, .pointer (some ⟨b1, 0, none⟩)), (7, .bool y3), (8, .int .i64 x14), (10, .pointer (some ⟨b47, 0, none⟩)), (97, .bool true)]) (by (try simp only [hb184]); kernel_rfl) ?_
                              refine OpsT.pures (r := []) [4, 5, 6, 7, 8, 9, 10, 11, 12, 13, 14, 15, 16] [1, 2, 3, 7, 8, 10, 110] (S' := [(1, .slice A_a1 a1.length c_a1), (2, .int .i64 a2), (3, .pointer (some ⟨b1, 0, none⟩)), (7, .bool y3), (8, .int .i64 x14), (10, .pointer (some ⟨b47, 0, none⟩)), (110, .bool true)]) (by kernel_rfl) ?_
                              refine OpsT.done ?_
                              have e := someS h3
                              subst e
                              exact Qn.thenJ fun a ha => ⟨true, rfl, ha.keep [1, 2, 3, 7, 8, 10, 110] (by kernel_rfl), hI⟩
                            · rw [if_neg hb184] at h3
                              have hb184 : (!y183) = false := by simpa using hb184
                              refine OpsT.keep [1, 2, 3, 7, 8, 10, 97] (S' := [(1, .slice A_a1 a1.length c_a1), (2, .int .i64 a2), (3, .pointer (some ⟨b1, 0, none⟩)), (7, .bool y3), (8, .int .i64 x14), (10, .pointer (some ⟨b47, 0, none⟩)), (97, .bool false)]) (by (try simp only [hb184]); kernel_rfl) ?_
                              refine OpsT.pures (r := [5, 6, 7, 8, 9, 10, 11, 12, 13, 14, 15, 16]) [4] [1, 2, 3, 7, 8, 10, 97, 98] (S' := [(1, .slice A_a1 a1.length c_a1), (2, .int .i64 a2), (3, .pointer (some ⟨b1, 0, none⟩)), (7, .bool y3), (8, .int .i64 x14), (10, .pointer (some ⟨b47, 0, none⟩)), (97, .bool false), (98, .pointer (some ⟨b47, 0, none⟩))]) (by kernel_rfl) ?_
                              refine OpsT.cons (Does.yi (Yl.load (d := 99) (T := 3) (v := .int .i64 x48) (by kernel_rfl) (ldB ty3 (l := (([.int .i64 x48, .string x49, .string x50, .bool x51, .int .i64 x52, .slice A54 x53.length cp55] : List Value))) (o := 0) (v := .int .i64 x48) (ent_refl _) (by kernel_rfl))) hI ?_)
                              refine OpsT.pures (r := [7, 8, 9, 10, 11, 12, 13, 14, 15, 16]) [6] [1, 2, 3, 7, 8, 10, 97, 99, 100] (S' := [(1, .slice A_a1 a1.length c_a1), (2, .int .i64 a2), (3, .pointer (some ⟨b1, 0, none⟩)), (7, .bool y3), (8, .int .i64 x14), (10, .pointer (some ⟨b47, 0, none⟩)), (97, .bool false), (99, .int .i64 x48), (100, .pointer (some ⟨b1, 0, none⟩))]) (by kernel_rfl) ?_
                              refine OpsT.cons (Does.yi (Yl.load (d := 101) (T := 3) (v := .int .i64 x15) (by kernel_rfl) (ldB ty3 (l := (([.int .i64 x15, .string x16, .string x17, .bool x18, .int .i64 x19, .slice A21 x20.length cp22] : List Value))) (o := 0) (v := .int .i64 x15) (pick2 _ _ _) (by kernel_rfl))) hI ?_)
                              refine OpsT.pures (r := [11, 12, 13, 14, 15, 16]) [8, 9, 10] [1, 2, 3, 7, 8, 10, 104] (S' := [(1, .slice A_a1 a1.length c_a1), (2, .int .i64 a2), (3, .pointer (some ⟨b1, 0, none⟩)), (7, .bool y3), (8, .int .i64 x14), (10, .pointer (some ⟨b47, 0, none⟩)), (104, .bool (x48 != x15))]) (by kernel_rfl) ?_
                              by_cases hb185 : (x48 != x15) = true
                              · rw [if_pos hb185] at h3
                                refine OpsT.keep [1, 2, 3, 7, 8, 10, 104] (S' := [(1, .slice A_a1 a1.length c_a1), (2, .int .i64 a2), (3, .pointer (some ⟨b1, 0, none⟩)), (7, .bool y3), (8, .int .i64 x14), (10, .pointer (some ⟨b47, 0, none⟩)), (104, .bool true)]) (by (try simp only [hb185]); kernel_rfl) ?_
                                refine OpsT.pures (r := []) [11, 12, 13, 14, 15, 16] [1, 2, 3, 7, 8, 10, 110] (S' := [(1, .slice A_a1 a1.length c_a1), (2, .int .i64 a2), (3, .pointer (some ⟨b1, 0, none⟩)), (7, .bool y3), (8, .int .i64 x14), (10, .pointer (some ⟨b47, 0, none⟩)), (110, .bool true)]) (by kernel_rfl) ?_
                                refine OpsT.done ?_
                                have e := someS h3
                                subst e
                                exact Qn.thenJ fun a ha => ⟨true, rfl, ha.keep [1, 2, 3, 7, 8, 10, 110] (by kernel_rfl), hI⟩
                              · rw [if_neg hb185] at h3
                                have hb185 : (x48 != x15) = false := by simpa using hb185
                                refine OpsT.keep [1, 2, 3, 7, 8, 10, 104] (S' := [(1, .slice A_a1 a1.length c_a1), (2, .int .i64 a2), (3, .pointer (some ⟨b1, 0, none⟩)), (7, .bool y3), (8, .int .i64 x14), (10, .pointer (some ⟨b47, 0, none⟩)), (104, .bool false)]) (by (try simp only [hb185]); kernel_rfl) ?_
                                refine OpsT.pures (r := [12, 13, 14, 15, 16]) [11] [1, 2, 3, 7, 8, 10, 104, 105] (S' := [(1, .slice A_a1 a1.length c_a1), (2, .int .i64 a2), (3, .pointer (some ⟨b1, 0, none⟩)), (7, .bool y3), (8, .int .i64 x14), (10, .pointer (some ⟨b47, 0, none⟩)), (104, .bool false), (105, .pointer (some ⟨b47, 1, none⟩))]) (by kernel_rfl) ?_
                                refine OpsT.cons (Does.yi (Yl.load (d := 106) (T := 9) (v := .string x49) (by kernel_rfl) (ldB ty9 (l := (([.int .i64 x48, .string x49, .string x50, .bool x51, .int .i64 x52, .slice A54 x53.length cp55] : List Value))) (o := 1) (v := .string x49) (ent_refl _) (by kernel_rfl))) hI ?_)
                                refine OpsT.pures (r := [14, 15, 16]) [13] [1, 2, 3, 7, 8, 10, 104, 106, 107] (S' := [(1, .slice A_a1 a1.length c_a1), (2, .int .i64 a2), (3, .pointer (some ⟨b1, 0, none⟩)), (7, .bool y3), (8, .int .i64 x14), (10, .pointer (some ⟨b47, 0, none⟩)), (104, .bool false), (106, .string x49), (107, .pointer (some ⟨b1, 1, none⟩))]) (by kernel_rfl) ?_
                                refine OpsT.cons (Does.yi (Yl.load (d := 108) (T := 9) (v := .string x16) (by kernel_rfl) (ldB ty9 (l := (([.int .i64 x15, .string x16, .string x17, .bool x18, .int .i64 x19, .slice A21 x20.length cp22] : List Value))) (o := 1) (v := .string x16) (pick2 _ _ _) (by kernel_rfl))) hI ?_)
                                refine OpsT.pures (r := []) [15, 16] [1, 2, 3, 7, 8, 10, 110] (S' := [(1, .slice A_a1 a1.length c_a1), (2, .int .i64 a2), (3, .pointer (some ⟨b1, 0, none⟩)), (7, .bool y3), (8, .int .i64 x14), (10, .pointer (some ⟨b47, 0, none⟩)), (110, .bool (!(seq x49 x16)))]) (by kernel_rfl) ?_
                                refine OpsT.done ?_
                                have e := someS h3
                                subst e
                                exact Qn.thenJ fun a ha => ⟨!(seq x49 x16), rfl, ha.keep [1, 2, 3, 7, 8, 10, 110] (by kernel_rfl), hI⟩
                          ·
                            rintro a w ⟨x181, rfl, ha, hI⟩
                            try dsimp only at h2
                            refine CodT.of ?_ ha
                            by_cases hb186 : x181 = true
                            · rw [if_pos hb186] at h2
                              refine CodT.yes' (b := x181) (by kernel_rfl) hb186 ?_
                              refine CodT.seq ?_
                              refine CodT.regionL [0] (by kernel_rfl) ?_
                              refine OpsT.pures (r := []) [0] [6] (S' := [(6, .bool false)]) (by kernel_rfl) ?_
                              refine OpsT.done ?_
                              refine Qn.then ?_
                              refine CodT.ret ?_
                              refine Qn.ret_then ?_
                              refine Qn.block_ret ?_
                              refine Qn.ret_then ?_
                              refine Qn.ret_then ?_
                              refine Qn.block_ret ?_
                              refine Qn.ret_then ?_
                              refine Qn.ret_then ?_
                              have hI := hI.drop
                              have hI := hI.drop
                              have e := someS h2
                              subst e
                              try dsimp only at h1
                              have e := someS h1
                              subst e
                              try dsimp only at h0
                              have e := someS h0
                              subst e
                              refine Qn.keep [6] (S' := [(6, .bool false)]) (by kernel_rfl) ?_
                              exact post_ret (v := .bool false) (fun a ha => RunRes.run (vs := [.bool false]) (.tmp (t := 6) (by kernel_rfl) .nil) ha (by kernel_rfl)) ⟨rfl, hI.weaken (Hp.le_trans hle13 hle46)⟩
                            · rw [if_neg hb186] at h2
                              refine CodT.no' (b := x181) (by kernel_rfl) (by simpa using hb186) ?_
                              refine CodT.skip ?_
                              refine Qn.then ?_
                              refine CodT.regionL [0, 1] (by kernel_rfl) ?_
                              refine OpsT.cons (Does.yi (Yl.load (d := 111) (T := 24) (v := .agg ((([.int .i64 x48, .string x49, .string x50, .bool x51, .int .i64 x52, .slice A54 x53.length cp55] : List Value))).toArray) (by kernel_rfl) (ldBN ty24 (l := (([.int .i64 x48, .string x49, .string x50, .bool x51, .int .i64 x52, .slice A54 x53.length cp55] : List Value))) (o := 0) (cs := (([.int .i64 x48, .string x49, .string x50, .bool x51, .int .i64 x52, .slice A54 x53.length cp55] : List Value))) (ent_refl _) (by kernel_rfl) (whole _ _ (by kernel_rfl)))) hI ?_)
                              have hI := hI.mono (pick2 _ _ _)
                              refine OpsT.cons (Does.storeLit (T := 24) (b := b1) (o := 0) (v := .agg ((([.int .i64 x48, .string x49, .string x50, .bool x51, .int .i64 x52, .slice A54 x53.length cp55] : List Value))).toArray) (l := (([.int .i64 x15, .string x16, .string x17, .bool x18, .int .i64 x19, .slice A21 x20.length cp22] : List Value))) (vs := (([.int .i64 x48, .string x49, .string x50, .bool x51, .int .i64 x52, .slice A54 x53.length cp55] : List Value))) (L' := (([.int .i64 x48, .string x49, .string x50, .bool x51, .int .i64 x52, .slice A54 x53.length cp55] : List Value))) (by kernel_rfl) ty24 hI (by kernel_rfl) (by kernel_rfl) (by kernel_rfl) (by kernel_rfl) (by kernel_rfl) ?_)
                              intro w hI
                              refine OpsT.done ?_
                              refine Qn.block_normal ?_
                              have hI := hI.mono (pick2 _ _ _)
                              have hI := hI.drop
                              have e := someS h2
                              subst e
                              exact Qn.thenJ fun a ha => ⟨x48, x49, x50, x51, x52, x53, Z45, A54, cp55, rfl, ha.keep [1, 2, 3, 7, 8] (by kernel_rfl), hI, hle46, hr56⟩
            ·
              rintro a w ⟨x27, x28, x29, x30, x31, x32, Z25, A33, cp34, rfl, ha, hI, hle26, hr35⟩
              try dsimp only at h1
              refine CodT.of ?_ ha
              refine CodT.regionL [0, 1, 2] (by kernel_rfl) ?_
              refine OpsT.pures (r := []) [0, 1, 2] [1, 2, 3, 7, 8] (S' := [(1, .slice A_a1 a1.length c_a1), (2, .int .i64 a2), (3, .pointer (some ⟨b1, 0, none⟩)), (7, .bool y3), (8, .int .i64 (wi64 (x14 + 1)))]) (by kernel_rfl) ?_
              refine OpsT.done ?_
              exact Qn.thenJ fun a ha => ⟨k, Nat.lt_succ_self k, wi64 (x14 + 1), x27, x28, x29, x30, x31, x32, Z25, A33, cp34, h1, ha.keep [1, 2, 3, 7, 8] (by kernel_rfl), hI, (Hp.le_trans hle13 hle26), hr35⟩
          · rw [if_neg hb24] at h1
            refine CodT.no' (b := decide (x14 < (a1.length : Int))) (by kernel_rfl) (by simpa using hb24) ?_
            refine CodT.exit ?_
            refine Qn.exit_then ?_
            refine Qn.exit_then ?_
            refine Qn.block ?_
            have hI := hI.drop
            have e := someS h1
            subst e
            exact Qn.thenJ fun a ha => ⟨Z12, rfl, ha.keep [7] (by kernel_rfl), hI, hle13⟩
        ·
          rintro a w ⟨Z10, rfl, ha, hI, hle11⟩
          try dsimp only at h0
          refine Qn.of ?_ ha
          refine Qn.then ?_
          refine CodT.seq ?_
          refine CodT.regionL [0, 1] (by kernel_rfl) ?_
          refine OpsT.pures (r := []) [0, 1] [6] (S' := [(6, .bool y3)]) (by kernel_rfl) ?_
          refine OpsT.done ?_
          refine Qn.then ?_
          refine CodT.ret ?_
          have e := someS h0
          subst e
          refine Qn.keep [6] (S' := [(6, .bool y3)]) (by kernel_rfl) ?_
          exact post_ret (v := .bool y3) (fun a ha => RunRes.run (vs := [.bool y3]) (.tmp (t := 6) (by kernel_rfl) .nil) ha (by kernel_rfl)) ⟨rfl, hI.weaken hle11⟩
end Go.Cen
