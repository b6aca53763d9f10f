/- That the machine computes these: walks, printed by a program of ours. -/
import Derived.Test.YthdoklobbcedcadDoorPx
import Derived.Test.YthdoklobbcedcadDoorWx0
set_option linter.unusedVariables false
set_option linter.unusedSimpArgs false
namespace Go.Cen
set_option maxRecDepth 100000 in
set_option maxHeartbeats 4000000 in
/-- cenotaph/file.tell -/
theorem c34 (w0 w : World) (Z : Hp) (A : HP) (hI : Inv w0 Z w A) (hT : Tabs Z) (a0_ID : Int) (a0_Name : ByteArray) (a0_Data : ByteArray) (a0_Sealed : Bool) (a0_Until : Int) (A_a0_Holds : Option Addr) (c_a0_Holds : Nat) (a0_Holds : (List ByteArray)) (hr_a0_Holds : RdS Z cS 1 A_a0_Holds c_a0_Holds a0_Holds) (a1 : ApiOp) (r : ApiEvent) (h0 : file_tell a0_ID a0_Name a0_Data a0_Sealed a0_Until a0_Holds a1 = some r) :
    Calls prog 34 #[.agg ((([.int .i64 a0_ID, .string a0_Name, .string a0_Data, .bool a0_Sealed, .int .i64 a0_Until, .slice A_a0_Holds a0_Holds.length c_a0_Holds] : List Value))).toArray, .agg (c_ApiOp a1).toArray] w (fun e w' => e = .returned (.agg (c_ApiEvent r).toArray) ∧ r.Sum.length = 32 ∧ Inv w0 Z w' A) := by
  have e4 := calls_intro (R := (fun e w' => e = .returned (.agg (c_ApiEvent r).toArray) ∧ r.Sum.length = 32 ∧ Inv w0 Z w' A)) (w := w) (args := [.agg ((([.int .i64 a0_ID, .string a0_Name, .string a0_Data, .bool a0_Sealed, .int .i64 a0_Until, .slice A_a0_Holds a0_Holds.length c_a0_Holds] : List Value))).toArray, .agg (c_ApiOp a1).toArray]) (fn := Go.Proofs.Tryd.f34) 44 Go.Proofs.Tryd.func34 (by rfl) Go.Proofs.Tryd.ntmps34 (by kernel_rfl)
  refine e4 ?_
  clear e4
  unfold file_tell at h0
  refine CodT.seq ?_
  refine CodT.regionL [0, 1, 2] (by kernel_rfl) ?_
  refine OpsT.cons (Does.boxL (d := 2) (T := 24) (v := .agg ((([.int .i64 a0_ID, .string a0_Name, .string a0_Data, .bool a0_Sealed, .int .i64 a0_Until, .slice A_a0_Holds a0_Holds.length c_a0_Holds] : List Value))).toArray) ((([.int .i64 a0_ID, .string a0_Name, .string a0_Data, .bool a0_Sealed, .int .i64 a0_Until, .slice A_a0_Holds a0_Holds.length c_a0_Holds] : List Value))) (by kernel_rfl) hI (by kernel_rfl) ?_)
  intro b1 w hI
  refine OpsT.cons (Does.boxL (d := 3) (T := 43) (v := .agg (c_ApiOp a1).toArray) (c_ApiOp a1) (by kernel_rfl) hI (by kernel_rfl) ?_)
  intro b2 w hI
  refine OpsT.cons (Does.allocL (d := 4) (T := 39) (c_ApiEvent (ApiEvent.mk 0 0 (⟨#[]⟩ : ByteArray) 0 0 (List.replicate 32 (0 : Int)))) (by kernel_rfl) ty39 hI (by kernel_rfl) ?_)
  intro b3 w hI
  refine OpsT.done ?_
  refine Qn.then ?_
  refine CodT.seq ?_
  refine CodT.regionL [0, 1, 2, 3, 4, 5, 6] (by kernel_rfl) ?_
  refine OpsT.pures (r := [1, 2, 3, 4, 5, 6]) [0] [2, 3, 4, 6] (S' := [(2, .pointer (some ⟨b1, 0, none⟩)), (3, .pointer (some ⟨b2, 0, none⟩)), (4, .pointer (some ⟨b3, 0, none⟩)), (6, .pointer (some ⟨b2, 0, none⟩))]) (by kernel_rfl) ?_
  refine OpsT.cons (Does.yi (Yl.load (d := 7) (T := 35) (v := .int .i64 a1.Kind) (by kernel_rfl) (ldB ty35 (l := c_ApiOp a1) (o := 0) (v := .int .i64 a1.Kind) (pick2 _ _ _) (by kernel_rfl))) hI ?_)
  refine OpsT.pures (r := [3, 4, 5, 6]) [2] [2, 3, 4, 7, 8] (S' := [(2, .pointer (some ⟨b1, 0, none⟩)), (3, .pointer (some ⟨b2, 0, none⟩)), (4, .pointer (some ⟨b3, 0, none⟩)), (7, .int .i64 a1.Kind), (8, .pointer (some ⟨b1, 0, none⟩))]) (by kernel_rfl) ?_
  refine OpsT.cons (Does.yi (Yl.load (d := 9) (T := 3) (v := .int .i64 a0_ID) (by kernel_rfl) (ldB ty3 (l := (([.int .i64 a0_ID, .string a0_Name, .string a0_Data, .bool a0_Sealed, .int .i64 a0_Until, .slice A_a0_Holds a0_Holds.length c_a0_Holds] : List Value))) (o := 0) (v := .int .i64 a0_ID) (pick3 _ _ _ _) (by kernel_rfl))) hI ?_)
  refine OpsT.pures (r := [5, 6]) [4] [2, 3, 4, 10] (S' := [(2, .pointer (some ⟨b1, 0, none⟩)), (3, .pointer (some ⟨b2, 0, none⟩)), (4, .pointer (some ⟨b3, 0, none⟩)), (10, .agg (c_ApiEvent (ApiEvent.mk a1.Kind a0_ID (⟨#[]⟩ : ByteArray) 0 0 (List.replicate 32 (0 : Int)))).toArray)]) (by kernel_rfl) ?_
  refine OpsT.cons (Does.allocL (d := 5) (T := 39) (c_ApiEvent (ApiEvent.mk 0 0 (⟨#[]⟩ : ByteArray) 0 0 (List.replicate 32 (0 : Int)))) (by kernel_rfl) ty39 hI (by kernel_rfl) ?_)
  intro b4 w hI
  refine OpsT.cons (Does.storeLit (T := 39) (b := b4) (o := 0) (v := .agg (c_ApiEvent (ApiEvent.mk a1.Kind a0_ID (⟨#[]⟩ : ByteArray) 0 0 (List.replicate 32 (0 : Int)))).toArray) (l := c_ApiEvent (ApiEvent.mk 0 0 (⟨#[]⟩ : ByteArray) 0 0 (List.replicate 32 (0 : Int)))) (vs := c_ApiEvent (ApiEvent.mk a1.Kind a0_ID (⟨#[]⟩ : ByteArray) 0 0 (List.replicate 32 (0 : Int)))) (L' := c_ApiEvent (ApiEvent.mk a1.Kind a0_ID (⟨#[]⟩ : ByteArray) 0 0 (List.replicate 32 (0 : Int)))) (by kernel_rfl) ty39 hI (by kernel_rfl) (len_ApiEvent _ (by kernel_rfl)) (by rw [(len_ApiEvent _ (by kernel_rfl))]; kernel_rfl) (ones_app _ _ (by kernel_rfl) (ones_cA _)) (lset_all _ _ (Eq.trans (len_ApiEvent _ (by kernel_rfl)) (Eq.symm (len_ApiEvent _ (by kernel_rfl))))) ?_)
  intro w hI
  refine OpsT.done ?_
  refine Qn.then ?_
  obtain ⟨r1, h1, h0⟩ := bindS h0
  refine CodT.meet (fun a w => ∃ (x5 : ApiEvent), x5 = r1 ∧ Fr 44 [(4, .pointer (some ⟨b3, 0, none⟩)), (5, .pointer (some ⟨b4, 0, none⟩))] a ∧ Inv w0 Z w (star (pt b4 (.cells (c_ApiEvent x5).toArray 39 (0, 0))) (star (pt b3 (.cells (c_ApiEvent (ApiEvent.mk 0 0 (⟨#[]⟩ : ByteArray) 0 0 (List.replicate 32 (0 : Int)))).toArray 39 (0, 0))) A)) ∧ x5.Sum.length = 32) ?_ ?_
  ·
    refine CodT.seq ?_
    refine CodT.regionL [0, 1] (by kernel_rfl) ?_
    refine OpsT.pures (r := [1]) [0] [2, 3, 4, 5, 11] (S' := [(2, .pointer (some ⟨b1, 0, none⟩)), (3, .pointer (some ⟨b2, 0, none⟩)), (4, .pointer (some ⟨b3, 0, none⟩)), (5, .pointer (some ⟨b4, 0, none⟩)), (11, .pointer (some ⟨b2, 0, none⟩))]) (by kernel_rfl) ?_
    refine OpsT.cons (Does.yi (Yl.load (d := 12) (T := 35) (v := .int .i64 a1.Kind) (by kernel_rfl) (ldB ty35 (l := c_ApiOp a1) (o := 0) (v := .int .i64 a1.Kind) (pick3 _ _ _ _) (by kernel_rfl))) hI ?_)
    refine OpsT.done ?_
    refine Qn.then ?_
    refine CodT.block ?_
    refine CodT.seq ?_
    refine CodT.regionL [0, 1] (by kernel_rfl) ?_
    refine OpsT.pures (r := []) [0, 1] [2, 3, 4, 5, 12, 13] (S' := [(2, .pointer (some ⟨b1, 0, none⟩)), (3, .pointer (some ⟨b2, 0, none⟩)), (4, .pointer (some ⟨b3, 0, none⟩)), (5, .pointer (some ⟨b4, 0, none⟩)), (12, .int .i64 a1.Kind), (13, .bool (a1.Kind == 1))]) (by kernel_rfl) ?_
    refine OpsT.done ?_
    refine Qn.then ?_
    by_cases hb7 : (a1.Kind == 1) = true
    · rw [if_pos hb7] at h1
      refine CodT.yes' (b := a1.Kind == 1) (by kernel_rfl) hb7 ?_
      refine CodT.regionL [0, 1, 2, 3, 4] (by kernel_rfl) ?_
      refine OpsT.pures (r := [1, 2, 3, 4]) [0] [4, 5, 15] (S' := [(4, .pointer (some ⟨b3, 0, none⟩)), (5, .pointer (some ⟨b4, 0, none⟩)), (15, .pointer (some ⟨b2, 2, none⟩))]) (by kernel_rfl) ?_
      refine OpsT.cons (Does.yi (Yl.load (d := 16) (T := 9) (v := .string a1.Text) (by kernel_rfl) (ldB ty9 (l := c_ApiOp a1) (o := 2) (v := .string a1.Text) (pick3 _ _ _ _) (by kernel_rfl))) hI ?_)
      refine OpsT.pures (r := [4]) [2, 3] [4, 5, 17, 18] (S' := [(4, .pointer (some ⟨b3, 0, none⟩)), (5, .pointer (some ⟨b4, 0, none⟩)), (17, .int .i64 (a1.Text.size : Int)), (18, .pointer (some ⟨b4, 4, none⟩))]) (by kernel_rfl) ?_
      refine OpsT.cons (Does.storeLit (T := 3) (b := b4) (o := 4) (v := .int .i64 (a1.Text.size : Int)) (l := c_ApiEvent (ApiEvent.mk a1.Kind a0_ID (⟨#[]⟩ : ByteArray) 0 0 (List.replicate 32 (0 : Int)))) (vs := ([.int .i64 (a1.Text.size : Int)] : List Value)) (L' := c_ApiEvent (ApiEvent.mk a1.Kind a0_ID (⟨#[]⟩ : ByteArray) 0 (a1.Text.size : Int) (List.replicate 32 (0 : Int)))) (by kernel_rfl) ty3 hI (by kernel_rfl) (by kernel_rfl) (by kernel_rfl) (by kernel_rfl) (by kernel_rfl) ?_)
      intro w hI
      refine OpsT.done ?_
      refine Qn.block_normal ?_
      have hI := hI.mono (pick3 _ _ _ _)
      have hI := hI.drop
      have hI := hI.mono (pick3 _ _ _ _)
      have hI := hI.drop
      have e := someS h1
      subst e
      exact Qn.thenJ fun a ha => ⟨(ApiEvent.mk a1.Kind a0_ID (⟨#[]⟩ : ByteArray) 0 (a1.Text.size : Int) (List.replicate 32 (0 : Int))), rfl, ha.keep [4, 5] (by kernel_rfl), hI, (by kernel_rfl)⟩
    · rw [if_neg hb7] at h1
      refine CodT.no' (b := a1.Kind == 1) (by kernel_rfl) (by simpa using hb7) ?_
      refine CodT.seq ?_
      refine CodT.regionL [0, 1] (by kernel_rfl) ?_
      refine OpsT.pures (r := []) [0, 1] [2, 3, 4, 5, 12, 19] (S' := [(2, .pointer (some ⟨b1, 0, none⟩)), (3, .pointer (some ⟨b2, 0, none⟩)), (4, .pointer (some ⟨b3, 0, none⟩)), (5, .pointer (some ⟨b4, 0, none⟩)), (12, .int .i64 a1.Kind), (19, .bool (a1.Kind == 2))]) (by kernel_rfl) ?_
      refine OpsT.done ?_
      refine Qn.then ?_
      by_cases hb8 : (a1.Kind == 2) = true
      · rw [if_pos hb8] at h1
        refine CodT.yes' (b := a1.Kind == 2) (by kernel_rfl) hb8 ?_
        refine CodT.drawC (n := 14) (B := (star (pt b3 (.cells (c_ApiEvent (ApiEvent.mk 0 0 (⟨#[]⟩ : ByteArray) 0 0 (List.replicate 32 (0 : Int)))).toArray 39 (0, 0))) (star (pt b2 (.cells (c_ApiOp a1).toArray 43 (0, 0))) (star (pt b1 (.cells ((([.int .i64 a0_ID, .string a0_Name, .string a0_Data, .bool a0_Sealed, .int .i64 a0_Until, .slice A_a0_Holds a0_Holds.length c_a0_Holds] : List Value))).toArray 24 (0, 0))) A)))) [] (by kernel_rfl) (by kernel_rfl) hI ?_
        intro w hI
        refine GmT.p' 0 21 (.pointer (some ⟨b2, 3, none⟩)) (by kernel_rfl) (by kernel_rfl) ?_
        refine GmT.p' 2 23 (.pointer (some ⟨b1, 2, none⟩)) (by kernel_rfl) (by kernel_rfl) ?_
        refine GmT.p' 5 26 (.pointer (some ⟨b1, 2, none⟩)) (by kernel_rfl) (by kernel_rfl) ?_
        have hC := hI
        have hC := hC.drop
        refine GmT.r (i := 1) 2 (by kernel_rfl) (by kernel_rfl) (Yl.load (d := 22) (T := 3) (v := .int .i64 a1.Time) (by kernel_rfl) (ldB ty3 (l := c_ApiOp a1) (o := 3) (v := .int .i64 a1.Time) (pick2 _ _ _) (by kernel_rfl))) hC ?_
        refine GmT.p' 8 29 (.pointer (some ⟨b4, 3, none⟩)) (by kernel_rfl) (by kernel_rfl) ?_
        have hC := hI
        have hC := hC.drop
        refine GmT.r (i := 3) 2 (by kernel_rfl) (by kernel_rfl) (Yl.load (d := 24) (T := 9) (v := .string a0_Data) (by kernel_rfl) (ldB ty9 (l := (([.int .i64 a0_ID, .string a0_Name, .string a0_Data, .bool a0_Sealed, .int .i64 a0_Until, .slice A_a0_Holds a0_Holds.length c_a0_Holds] : List Value))) (o := 2) (v := .string a0_Data) (pick3 _ _ _ _) (by kernel_rfl))) hC ?_
        refine GmT.p' 4 25 (.int .i64 (a0_Data.size : Int)) (by kernel_rfl) (by kernel_rfl) ?_
        have hC := hI
        have hC := hC.drop
        refine GmT.r (i := 6) 2 (by kernel_rfl) (by kernel_rfl) (Yl.load (d := 27) (T := 9) (v := .string a0_Data) (by kernel_rfl) (ldB ty9 (l := (([.int .i64 a0_ID, .string a0_Name, .string a0_Data, .bool a0_Sealed, .int .i64 a0_Until, .slice A_a0_Holds a0_Holds.length c_a0_Holds] : List Value))) (o := 2) (v := .string a0_Data) (pick3 _ _ _ _) (by kernel_rfl))) hC ?_
        obtain ⟨y10, hc9, h1⟩ := bindS h1
        try dsimp only at h1
        refine GmT.o (i := 7) (by kernel_rfl) (Does.call (d := some 28) (n := 21) (vs := [.string a0_Data]) (by kernel_rfl) en21 (c21 w0 w _ _ hI hT a0_Data _ hc9) ?_)
        rintro e w ⟨rfl, hl11, hI⟩
        refine ⟨_, rfl, ?_⟩
        have hC := hI
        have hC := hC.drop
        refine ⟨fun _ _ => hC, ?_⟩
        refine GmT.o (i := 9) (by kernel_rfl) (Does.storeLit (T := 3) (b := b4) (o := 3) (v := .int .i64 a1.Time) (l := c_ApiEvent (ApiEvent.mk a1.Kind a0_ID (⟨#[]⟩ : ByteArray) 0 0 (List.replicate 32 (0 : Int)))) (vs := ([.int .i64 a1.Time] : List Value)) (L' := c_ApiEvent (ApiEvent.mk a1.Kind a0_ID (⟨#[]⟩ : ByteArray) a1.Time 0 (List.replicate 32 (0 : Int)))) (by kernel_rfl) ty3 hI (by kernel_rfl) (by kernel_rfl) (by kernel_rfl) (by kernel_rfl) (by kernel_rfl) ?_)
        intro w hI
        have hC := hI
        have hC := hC.drop
        refine ⟨fun _ _ => hC, ?_⟩
        refine GmT.p' 10 30 (.pointer (some ⟨b4, 4, none⟩)) (by kernel_rfl) (by kernel_rfl) ?_
        refine GmT.o (i := 11) (by kernel_rfl) (Does.storeLit (T := 3) (b := b4) (o := 4) (v := .int .i64 (a0_Data.size : Int)) (l := c_ApiEvent (ApiEvent.mk a1.Kind a0_ID (⟨#[]⟩ : ByteArray) a1.Time 0 (List.replicate 32 (0 : Int)))) (vs := ([.int .i64 (a0_Data.size : Int)] : List Value)) (L' := c_ApiEvent (ApiEvent.mk a1.Kind a0_ID (⟨#[]⟩ : ByteArray) a1.Time (a0_Data.size : Int) (List.replicate 32 (0 : Int)))) (by kernel_rfl) ty3 hI (by kernel_rfl) (by kernel_rfl) (by kernel_rfl) (by kernel_rfl) (by kernel_rfl) ?_)
        intro w hI
        have hC := hI
        have hC := hC.drop
        refine ⟨fun _ _ => hC, ?_⟩
        refine GmT.p' 12 31 (.pointer (some ⟨b4, 5, none⟩)) (by kernel_rfl) (by kernel_rfl) ?_
        refine GmT.o (i := 13) (by kernel_rfl) (Does.storeLit (T := 37) (b := b4) (o := 5) (v := .agg (cA (Value.int .u8) y10).toArray) (l := c_ApiEvent (ApiEvent.mk a1.Kind a0_ID (⟨#[]⟩ : ByteArray) a1.Time (a0_Data.size : Int) (List.replicate 32 (0 : Int)))) (vs := cA (Value.int .u8) y10) (L' := c_ApiEvent (ApiEvent.mk a1.Kind a0_ID (⟨#[]⟩ : ByteArray) a1.Time (a0_Data.size : Int) y10)) (by kernel_rfl) ty37 hI (by kernel_rfl) ((cA_length _ _).trans hl11) (by rw [(len_ApiEvent _ (by kernel_rfl))]; kernel_rfl) (ones_cA _) (tail_all _ _ _ _ _ (by kernel_rfl) (Eq.trans hl11 (Eq.symm (by kernel_rfl)))) ?_)
        intro w hI
        have hC := hI
        have hC := hC.drop
        refine ⟨fun _ _ => hC, ?_⟩
        refine GmT.done (by kernel_rfl) ?_
        refine Qn.block_normal ?_
        have hI := hI.mono (pick3 _ _ _ _)
        have hI := hI.drop
        have hI := hI.mono (pick3 _ _ _ _)
        have hI := hI.drop
        have e := someS h1
        subst e
        exact Qn.thenJ fun a ha => ⟨(ApiEvent.mk a1.Kind a0_ID (⟨#[]⟩ : ByteArray) a1.Time (a0_Data.size : Int) y10), rfl, ha.keep [4, 5] (by kernel_rfl), hI, hl11⟩
      · rw [if_neg hb8] at h1
        refine CodT.no' (b := a1.Kind == 2) (by kernel_rfl) (by simpa using hb8) ?_
        refine CodT.seq ?_
        refine CodT.regionL [0, 1] (by kernel_rfl) ?_
        refine OpsT.pures (r := []) [0, 1] [3, 4, 5, 12, 32] (S' := [(3, .pointer (some ⟨b2, 0, none⟩)), (4, .pointer (some ⟨b3, 0, none⟩)), (5, .pointer (some ⟨b4, 0, none⟩)), (12, .int .i64 a1.Kind), (32, .bool (a1.Kind == 3))]) (by kernel_rfl) ?_
        refine OpsT.done ?_
        refine Qn.then ?_
        by_cases hb12 : (a1.Kind == 3) = true
        · rw [if_pos hb12] at h1
          refine CodT.yes' (b := a1.Kind == 3) (by kernel_rfl) hb12 ?_
          refine CodT.regionL [0, 1, 2, 3] (by kernel_rfl) ?_
          refine OpsT.pures (r := [1, 2, 3]) [0] [4, 5, 34] (S' := [(4, .pointer (some ⟨b3, 0, none⟩)), (5, .pointer (some ⟨b4, 0, none⟩)), (34, .pointer (some ⟨b2, 3, none⟩))]) (by kernel_rfl) ?_
          refine OpsT.cons (Does.yi (Yl.load (d := 35) (T := 3) (v := .int .i64 a1.Time) (by kernel_rfl) (ldB ty3 (l := c_ApiOp a1) (o := 3) (v := .int .i64 a1.Time) (pick3 _ _ _ _) (by kernel_rfl))) hI ?_)
          refine OpsT.pures (r := [3]) [2] [4, 5, 35, 36] (S' := [(4, .pointer (some ⟨b3, 0, none⟩)), (5, .pointer (some ⟨b4, 0, none⟩)), (35, .int .i64 a1.Time), (36, .pointer (some ⟨b4, 3, none⟩))]) (by kernel_rfl) ?_
          refine OpsT.cons (Does.storeLit (T := 3) (b := b4) (o := 3) (v := .int .i64 a1.Time) (l := c_ApiEvent (ApiEvent.mk a1.Kind a0_ID (⟨#[]⟩ : ByteArray) 0 0 (List.replicate 32 (0 : Int)))) (vs := ([.int .i64 a1.Time] : List Value)) (L' := c_ApiEvent (ApiEvent.mk a1.Kind a0_ID (⟨#[]⟩ : ByteArray) a1.Time 0 (List.replicate 32 (0 : Int)))) (by kernel_rfl) ty3 hI (by kernel_rfl) (by kernel_rfl) (by kernel_rfl) (by kernel_rfl) (by kernel_rfl) ?_)
          intro w hI
          refine OpsT.done ?_
          refine Qn.block_normal ?_
          have hI := hI.mono (pick3 _ _ _ _)
          have hI := hI.drop
          have hI := hI.mono (pick3 _ _ _ _)
          have hI := hI.drop
          have e := someS h1
          subst e
          exact Qn.thenJ fun a ha => ⟨(ApiEvent.mk a1.Kind a0_ID (⟨#[]⟩ : ByteArray) a1.Time 0 (List.replicate 32 (0 : Int))), rfl, ha.keep [4, 5] (by kernel_rfl), hI, (by kernel_rfl)⟩
        · rw [if_neg hb12] at h1
          refine CodT.no' (b := a1.Kind == 3) (by kernel_rfl) (by simpa using hb12) ?_
          obtain ⟨r2, h2, h1⟩ := bindS h1
          refine CodT.meet (fun a w => ∃ (x13 : Bool), x13 = r2 ∧ Fr 44 [(3, .pointer (some ⟨b2, 0, none⟩)), (4, .pointer (some ⟨b3, 0, none⟩)), (5, .pointer (some ⟨b4, 0, none⟩)), (37, .bool x13)] a ∧ Inv w0 Z w (star (pt b4 (.cells (c_ApiEvent (ApiEvent.mk a1.Kind a0_ID (⟨#[]⟩ : ByteArray) 0 0 (List.replicate 32 (0 : Int)))).toArray 39 (0, 0))) (star (pt b3 (.cells (c_ApiEvent (ApiEvent.mk 0 0 (⟨#[]⟩ : ByteArray) 0 0 (List.replicate 32 (0 : Int)))).toArray 39 (0, 0))) (star (pt b2 (.cells (c_ApiOp a1).toArray 43 (0, 0))) A)))) ?_ ?_
          ·
            refine CodT.seq ?_
            refine CodT.regionL [0, 1] (by kernel_rfl) ?_
            refine OpsT.pures (r := []) [0, 1] [3, 4, 5, 12, 37] (S' := [(3, .pointer (some ⟨b2, 0, none⟩)), (4, .pointer (some ⟨b3, 0, none⟩)), (5, .pointer (some ⟨b4, 0, none⟩)), (12, .int .i64 a1.Kind), (37, .bool (a1.Kind == 4))]) (by kernel_rfl) ?_
            refine OpsT.done ?_
            refine Qn.then ?_
            by_cases hb14 : (a1.Kind == 4) = true
            · rw [if_pos hb14] at h2
              refine CodT.yes' (b := a1.Kind == 4) (by kernel_rfl) hb14 ?_
              refine CodT.skip ?_
              have hI := hI.mono (pick4 _ _ _ _ _)
              have hI := hI.drop
              have e := someS h2
              subst e
              exact Qn.thenJ fun a ha => ⟨a1.Kind == 4, rfl, ha.keep [3, 4, 5, 37] (by kernel_rfl), hI⟩
            · rw [if_neg hb14] at h2
              refine CodT.no' (b := a1.Kind == 4) (by kernel_rfl) (by simpa using hb14) ?_
              refine CodT.regionL [0, 1] (by kernel_rfl) ?_
              refine OpsT.pures (r := []) [0, 1] [3, 4, 5, 37] (S' := [(3, .pointer (some ⟨b2, 0, none⟩)), (4, .pointer (some ⟨b3, 0, none⟩)), (5, .pointer (some ⟨b4, 0, none⟩)), (37, .bool (a1.Kind == 5))]) (by kernel_rfl) ?_
              refine OpsT.done ?_
              have hI := hI.mono (pick4 _ _ _ _ _)
              have hI := hI.drop
              have e := someS h2
              subst e
              exact Qn.thenJ fun a ha => ⟨a1.Kind == 5, rfl, ha.keep [3, 4, 5, 37] (by kernel_rfl), hI⟩
          ·
            rintro a w ⟨x13, rfl, ha, hI⟩
            try dsimp only at h1
            refine CodT.of ?_ ha
            by_cases hb15 : x13 = true
            · rw [if_pos hb15] at h1
              refine CodT.yes' (b := x13) (by kernel_rfl) hb15 ?_
              refine CodT.regionL [0, 1, 2, 3] (by kernel_rfl) ?_
              refine OpsT.pures (r := [1, 2, 3]) [0] [4, 5, 40] (S' := [(4, .pointer (some ⟨b3, 0, none⟩)), (5, .pointer (some ⟨b4, 0, none⟩)), (40, .pointer (some ⟨b2, 2, none⟩))]) (by kernel_rfl) ?_
              refine OpsT.cons (Does.yi (Yl.load (d := 41) (T := 9) (v := .string a1.Text) (by kernel_rfl) (ldB ty9 (l := c_ApiOp a1) (o := 2) (v := .string a1.Text) (pick3 _ _ _ _) (by kernel_rfl))) hI ?_)
              refine OpsT.pures (r := [3]) [2] [4, 5, 41, 42] (S' := [(4, .pointer (some ⟨b3, 0, none⟩)), (5, .pointer (some ⟨b4, 0, none⟩)), (41, .string a1.Text), (42, .pointer (some ⟨b4, 2, none⟩))]) (by kernel_rfl) ?_
              refine OpsT.cons (Does.storeLit (T := 9) (b := b4) (o := 2) (v := .string a1.Text) (l := c_ApiEvent (ApiEvent.mk a1.Kind a0_ID (⟨#[]⟩ : ByteArray) 0 0 (List.replicate 32 (0 : Int)))) (vs := ([.string a1.Text] : List Value)) (L' := c_ApiEvent (ApiEvent.mk a1.Kind a0_ID a1.Text 0 0 (List.replicate 32 (0 : Int)))) (by kernel_rfl) ty9 hI (by kernel_rfl) (by kernel_rfl) (by kernel_rfl) (by kernel_rfl) (by kernel_rfl) ?_)
              intro w hI
              refine OpsT.done ?_
              refine Qn.block_normal ?_
              have hI := hI.mono (pick3 _ _ _ _)
              have hI := hI.drop
              have e := someS h1
              subst e
              exact Qn.thenJ fun a ha => ⟨(ApiEvent.mk a1.Kind a0_ID a1.Text 0 0 (List.replicate 32 (0 : Int))), rfl, ha.keep [4, 5] (by kernel_rfl), hI, (by kernel_rfl)⟩
            · rw [if_neg hb15] at h1
              refine CodT.no' (b := x13) (by kernel_rfl) (by simpa using hb15) ?_
              refine CodT.skip ?_
              refine Qn.block_normal ?_
              have hI := hI.mono (pick3 _ _ _ _)
              have hI := hI.drop
              have e := someS h1
              subst e
              exact Qn.thenJ fun a ha => ⟨(ApiEvent.mk a1.Kind a0_ID (⟨#[]⟩ : ByteArray) 0 0 (List.replicate 32 (0 : Int))), rfl, ha.keep [4, 5] (by kernel_rfl), hI, (by kernel_rfl)⟩
  ·
    rintro a w ⟨x5, rfl, ha, hI, hl6⟩
    try dsimp only at h0
    refine CodT.of ?_ ha
    refine CodT.seq ?_
    refine CodT.regionL [0, 1] (by kernel_rfl) ?_
    refine OpsT.cons (Does.yi (Yl.load (d := 43) (T := 39) (v := .agg (c_ApiEvent x5).toArray) (by kernel_rfl) (ldBN ty39 (l := c_ApiEvent x5) (o := 0) (cs := c_ApiEvent x5) (ent_refl _) (len_ApiEvent _ hl6) (whole _ _ (len_ApiEvent _ hl6)))) hI ?_)
    have hI := hI.mono (pick2 _ _ _)
    refine OpsT.cons (Does.storeLit (T := 39) (b := b3) (o := 0) (v := .agg (c_ApiEvent x5).toArray) (l := c_ApiEvent (ApiEvent.mk 0 0 (⟨#[]⟩ : ByteArray) 0 0 (List.replicate 32 (0 : Int)))) (vs := c_ApiEvent x5) (L' := c_ApiEvent x5) (by kernel_rfl) ty39 hI (by kernel_rfl) (len_ApiEvent _ hl6) (by rw [(len_ApiEvent _ (by kernel_rfl))]; kernel_rfl) (ones_app _ _ (by kernel_rfl) (ones_cA _)) (lset_all _ _ (Eq.trans (len_ApiEvent _ hl6) (Eq.symm (len_ApiEvent _ (by kernel_rfl))))) ?_)
    intro w hI
    refine OpsT.done ?_
    refine Qn.then ?_
    refine CodT.ret ?_
    have hL16 := (ldBN ty39 (l := c_ApiEvent x5) (o := 0) (cs := c_ApiEvent x5) (ent_refl _) (len_ApiEvent _ hl6) (whole _ _ (len_ApiEvent _ hl6))) w hI
    have hI := hI.drop
    have hI := hI.drop
    have e := someS h0
    subst e
    refine Qn.keep [4] (S' := [(4, .pointer (some ⟨b3, 0, none⟩))]) (by kernel_rfl) ?_
    exact post_ret (v := .agg (c_ApiEvent x5).toArray) (fun a ha => RunRes.run (vs := [.agg (c_ApiEvent x5).toArray]) (.cell (t := 4) (T := 39) (ad := ⟨b3, 0, none⟩) (by kernel_rfl) hL16 .nil) ha (by kernel_rfl)) ⟨rfl, hl6, hI⟩
set_option maxRecDepth 100000 in
set_option maxHeartbeats 4000000 in
/-- slices.Index[[]string,string] -/
theorem c60 (w0 w : World) (Z : Hp) (A : HP) (hI : Inv w0 Z w A) (hT : Tabs Z) (A_a0 : Option Addr) (c_a0 : Nat) (a0 : (List ByteArray)) (hr_a0 : RdS Z cS 1 A_a0 c_a0 a0) (a1 : ByteArray) (r : Int) (h0 : slices_Index_string a0 a1 = some r) :
    Calls prog 60 #[.slice A_a0 a0.length c_a0, .string a1] w (fun e w' => e = .returned (.int .i64 r) ∧ Inv w0 Z w' A) := by
  have e4 := calls_intro (R := (fun e w' => e = .returned (.int .i64 r) ∧ Inv w0 Z w' A)) (w := w) (args := [.slice A_a0 a0.length c_a0, .string a1]) (fn := Go.Proofs.Tryd.f60) 19 Go.Proofs.Tryd.func60 (by rfl) Go.Proofs.Tryd.ntmps60 (by kernel_rfl)
  refine e4 ?_
  clear e4
  unfold slices_Index_string at h0
  refine CodT.seq ?_
  refine CodT.regionL [0] (by kernel_rfl) ?_
  refine OpsT.pures (r := []) [0] [0, 1] (S' := [(0, .slice A_a0 a0.length c_a0), (1, .string a1)]) (by kernel_rfl) ?_
  refine OpsT.done ?_
  refine Qn.then ?_
  refine CodT.seq ?_
  refine CodT.seq ?_
  refine CodT.regionL [0, 1, 2] (by kernel_rfl) ?_
  refine OpsT.pures (r := []) [0, 1, 2] [0, 1, 7, 8] (S' := [(0, .slice A_a0 a0.length c_a0), (1, .string a1), (7, .int .i64 (a0.length : Int)), (8, .int .i64 0)]) (by kernel_rfl) ?_
  refine OpsT.done ?_
  refine Qn.then ?_
  obtain ⟨r1, h1, h0⟩ := bindS h0
  refine CodT.meet1 (fun a w => .inr () = r1 ∧ Fr 19 [] a ∧ Inv w0 Z w A) ?_ ?_
  ·
    refine CodT.block ?_
    refine (fun a ha => wp_loopN (fun k a w => ∃ (x1 : Int), slices_Index_string.l0 a0 a1 k x1 = some r1 ∧ Fr 19 [(0, .slice A_a0 a0.length c_a0), (1, .string a1), (7, .int .i64 (a0.length : Int)), (8, .int .i64 x1)] a ∧ Inv w0 Z w A) ?_ FU a w ⟨0, h1, ha.keep [0, 1, 7, 8] (by kernel_rfl), hI⟩)
    clear h1 hI
    rintro k a w ⟨x1, h1, ha, hI⟩
    rcases k with _ | k
    · cases h1
    simp only [slices_Index_string.l0] at h1
    refine CodT.of ?_ ha
    refine CodT.seq ?_
    refine CodT.regionL [0] (by kernel_rfl) ?_
    refine OpsT.pures (r := []) [0] [0, 1, 7, 8, 9] (S' := [(0, .slice A_a0 a0.length c_a0), (1, .string a1), (7, .int .i64 (a0.length : Int)), (8, .int .i64 x1), (9, .bool (decide (x1 < (a0.length : Int))))]) (by kernel_rfl) ?_
    refine OpsT.done ?_
    refine Qn.then ?_
    refine CodT.seq ?_
    by_cases hb2 : (decide (x1 < (a0.length : Int))) = true
    · rw [if_pos hb2] at h1
      refine CodT.yes' (b := decide (x1 < (a0.length : Int))) (by kernel_rfl) hb2 ?_
      refine CodT.skip ?_
      refine Qn.then ?_
      refine CodT.seq ?_
      refine CodT.block ?_
      refine CodT.seq ?_
      refine CodT.regionL [0, 1] (by kernel_rfl) ?_
      refine OpsT.pures (r := []) [0, 1] [0, 1, 5, 7, 8] (S' := [(0, .slice A_a0 a0.length c_a0), (1, .string a1), (5, .int .i64 x1), (7, .int .i64 (a0.length : Int)), (8, .int .i64 x1)]) (by kernel_rfl) ?_
      refine OpsT.done ?_
      refine Qn.then ?_
      refine CodT.seq ?_
      refine CodT.regionL [0, 1, 2, 3, 4, 5] (by kernel_rfl) ?_
      refine OpsT.pures (r := [3, 4, 5]) [0, 1, 2] [0, 1, 5, 7, 8, 11, 12, 13] (S' := [(0, .slice A_a0 a0.length c_a0), (1, .string a1), (5, .int .i64 x1), (7, .int .i64 (a0.length : Int)), (8, .int .i64 x1), (11, .string a1), (12, .slice A_a0 a0.length c_a0), (13, .int .i64 x1)]) (by kernel_rfl) ?_
      obtain ⟨hg3, h1⟩ := guardS h1
      obtain ⟨g4, o8, hA5, hr6, hl7⟩ := RdS.get hr_a0 hg3.1 hg3.2
      refine OpsT.cons (Does.yi (Yl.indexSlice (d := 14) (T := 22) (cc := c_a0) (k := .i64) (j := x1) (g := g4) (o := o8) (by kernel_rfl) Go.Proofs.Tryd.underlying22 ty9 hA5 hg3.1 hg3.2) hI ?_)
      refine OpsT.cons (Does.yi (Yl.load (d := 15) (T := 9) (v := .string (gt a0 x1)) (by kernel_rfl) (ldR ty9 (v := .string (gt a0 x1)) 0 (fun w hC => hr6 w0 w _ hC) (by kernel_rfl))) hI ?_)
      refine OpsT.pures (r := []) [5] [0, 1, 5, 7, 8, 16] (S' := [(0, .slice A_a0 a0.length c_a0), (1, .string a1), (5, .int .i64 x1), (7, .int .i64 (a0.length : Int)), (8, .int .i64 x1), (16, .bool (seq a1 (gt a0 x1)))]) (by kernel_rfl) ?_
      refine OpsT.done ?_
      refine Qn.then ?_
      by_cases hb9 : (seq a1 (gt a0 x1)) = true
      · rw [if_pos hb9] at h1
        refine CodT.yes' (b := seq a1 (gt a0 x1)) (by kernel_rfl) hb9 ?_
        refine CodT.seq ?_
        refine CodT.regionL [0, 1] (by kernel_rfl) ?_
        refine OpsT.pures (r := []) [0, 1] [4] (S' := [(4, .int .i64 x1)]) (by kernel_rfl) ?_
        refine OpsT.done ?_
        refine Qn.then ?_
        refine CodT.ret ?_
        refine Qn.block_ret ?_
        refine Qn.ret_then ?_
        refine Qn.ret_then ?_
        refine Qn.block_ret ?_
        refine Qn.ret_then ?_
        refine Qn.ret_then ?_
        have e := someS h1
        subst e
        try dsimp only at h0
        have e := someS h0
        subst e
        refine Qn.keep [4] (S' := [(4, .int .i64 x1)]) (by kernel_rfl) ?_
        exact post_ret (v := .int .i64 x1) (fun a ha => RunRes.run (vs := [.int .i64 x1]) (.tmp (t := 4) (by kernel_rfl) .nil) ha (by kernel_rfl)) ⟨rfl, hI⟩
      · rw [if_neg hb9] at h1
        refine CodT.no' (b := seq a1 (gt a0 x1)) (by kernel_rfl) (by simpa using hb9) ?_
        refine CodT.skip ?_
        refine Qn.block_normal ?_
        refine Qn.then ?_
        refine CodT.regionL [0, 1] (by kernel_rfl) ?_
        refine OpsT.pures (r := []) [0, 1] [0, 1, 7, 8] (S' := [(0, .slice A_a0 a0.length c_a0), (1, .string a1), (7, .int .i64 (a0.length : Int)), (8, .int .i64 (wi64 (x1 + 1)))]) (by kernel_rfl) ?_
        refine OpsT.done ?_
        exact Qn.thenJ fun a ha => ⟨k, Nat.lt_succ_self k, wi64 (x1 + 1), h1, ha.keep [0, 1, 7, 8] (by kernel_rfl), hI⟩
    · rw [if_neg hb2] at h1
      refine CodT.no' (b := decide (x1 < (a0.length : Int))) (by kernel_rfl) (by simpa using hb2) ?_
      refine CodT.exit ?_
      refine Qn.exit_then ?_
      refine Qn.exit_then ?_
      refine Qn.block ?_
      have e := someS h1
      subst e
      exact Qn.thenJ fun a ha => ⟨rfl, ha.keep [] (by kernel_rfl), hI⟩
  ·
    rintro a w ⟨rfl, ha, hI⟩
    try dsimp only at h0
    refine Qn.of ?_ ha
    refine Qn.then ?_
    refine CodT.seq ?_
    refine CodT.regionL [0] (by kernel_rfl) ?_
    refine OpsT.pures (r := []) [0] [4] (S' := [(4, .int .i64 (-1))]) (by kernel_rfl) ?_
    refine OpsT.done ?_
    refine Qn.then ?_
    refine CodT.ret ?_
    have e := someS h0
    subst e
    refine Qn.keep [4] (S' := [(4, .int .i64 (-1))]) (by kernel_rfl) ?_
    exact post_ret (v := .int .i64 (-1)) (fun a ha => RunRes.run (vs := [.int .i64 (-1)]) (.tmp (t := 4) (by kernel_rfl) .nil) ha (by kernel_rfl)) ⟨rfl, hI⟩
set_option maxRecDepth 100000 in
set_option maxHeartbeats 4000000 in
/-- slices.Contains[[]string,string] -/
theorem c55 (w0 w : World) (Z : Hp) (A : HP) (hI : Inv w0 Z w A) (hT : Tabs Z) (A_a0 : Option Addr) (c_a0 : Nat) (a0 : (List ByteArray)) (hr_a0 : RdS Z cS 1 A_a0 c_a0 a0) (a1 : ByteArray) (r : Bool) (h0 : slices_Contains_string a0 a1 = some r) :
    Calls prog 55 #[.slice A_a0 a0.length c_a0, .string a1] w (fun e w' => e = .returned (.bool r) ∧ Inv w0 Z w' A) := by
  have e4 := calls_intro (R := (fun e w' => e = .returned (.bool r) ∧ Inv w0 Z w' A)) (w := w) (args := [.slice A_a0 a0.length c_a0, .string a1]) (fn := Go.Proofs.Tryd.f55) 9 Go.Proofs.Tryd.func55 (by rfl) Go.Proofs.Tryd.ntmps55 (by kernel_rfl)
  refine e4 ?_
  clear e4
  unfold slices_Contains_string at h0
  refine CodT.seq ?_
  refine CodT.regionL [0] (by kernel_rfl) ?_
  refine OpsT.pures (r := []) [0] [0, 1] (S' := [(0, .slice A_a0 a0.length c_a0), (1, .string a1)]) (by kernel_rfl) ?_
  refine OpsT.done ?_
  refine Qn.then ?_
  refine CodT.seq ?_
  refine CodT.regionL [0, 1, 2, 3, 4] (by kernel_rfl) ?_
  refine OpsT.pures (r := [2, 3, 4]) [0, 1] [5, 6] (S' := [(5, .slice A_a0 a0.length c_a0), (6, .string a1)]) (by kernel_rfl) ?_
  obtain ⟨y2, hc1, h0⟩ := bindS h0
  try dsimp only at h0
  refine OpsT.cons (Does.call (d := some 7) (n := 60) (vs := [.slice A_a0 a0.length c_a0, .string a1]) (by kernel_rfl) en60 (c60 w0 w _ _ hI hT A_a0 c_a0 a0 hr_a0 a1 _ hc1) ?_)
  rintro e w ⟨rfl, hI⟩
  refine ⟨_, rfl, ?_⟩
  refine OpsT.pures (r := []) [3, 4] [4] (S' := [(4, .bool (decide (y2 ≥ 0)))]) (by kernel_rfl) ?_
  refine OpsT.done ?_
  refine Qn.then ?_
  refine CodT.ret ?_
  have e := someS h0
  subst e
  refine Qn.keep [4] (S' := [(4, .bool (decide (y2 ≥ 0)))]) (by kernel_rfl) ?_
  exact post_ret (v := .bool (decide (y2 ≥ 0))) (fun a ha => RunRes.run (vs := [.bool (decide (y2 ≥ 0))]) (.tmp (t := 4) (by kernel_rfl) .nil) ha (by kernel_rfl)) ⟨rfl, hI⟩
set_option maxRecDepth 100000 in
set_option maxHeartbeats 4000000 in
/-- unicode/utf8.decodeRuneInStringSlow -/
theorem c70 (w0 w : World) (Z : Hp) (A : HP) (hI : Inv w0 Z w A) (hT : Tabs Z) (a0 : ByteArray) (r : (Int × Int)) (h0 : utf8_decodeRuneInStringSlow a0 = some r) :
    Calls prog 70 #[.string a0] w (fun e w' => e = .returned (.tuple #[.int .i32 r.1, .int .i64 r.2]) ∧ Inv w0 Z w' A) := by
  have e4 := calls_intro (R := (fun e w' => e = .returned (.tuple #[.int .i32 r.1, .int .i64 r.2]) ∧ Inv w0 Z w' A)) (w := w) (args := [.string a0]) (fn := Go.Proofs.Tryd.f70) 117 Go.Proofs.Tryd.func70 (by rfl) Go.Proofs.Tryd.ntmps70 (by kernel_rfl)
  refine e4 ?_
  clear e4
  unfold utf8_decodeRuneInStringSlow at h0
  refine CodT.seq ?_
  refine CodT.regionL [0, 1] (by kernel_rfl) ?_
  refine OpsT.pures (r := []) [0, 1] [0] (S' := [(0, .string a0)]) (by kernel_rfl) ?_
  refine OpsT.done ?_
  refine Qn.then ?_
  refine CodT.seq ?_
  refine CodT.regionL [0, 1, 2] (by kernel_rfl) ?_
  refine OpsT.pures (r := []) [0, 1, 2] [0, 4] (S' := [(0, .string a0), (4, .int .i64 (a0.size : Int))]) (by kernel_rfl) ?_
  refine OpsT.done ?_
  refine Qn.then ?_
  refine CodT.seq ?_
  refine CodT.seq ?_
  refine CodT.regionL [0, 1] (by kernel_rfl) ?_
  refine OpsT.pures (r := []) [0, 1] [0, 4, 16] (S' := [(0, .string a0), (4, .int .i64 (a0.size : Int)), (16, .bool (decide ((a0.size : Int) < 1)))]) (by kernel_rfl) ?_
  refine OpsT.done ?_
  refine Qn.then ?_
  by_cases hb1 : (decide ((a0.size : Int) < 1)) = true
  · rw [if_pos hb1] at h0
    refine CodT.yes' (b := decide ((a0.size : Int) < 1)) (by kernel_rfl) hb1 ?_
    refine CodT.seq ?_
    refine CodT.regionL [0, 1] (by kernel_rfl) ?_
    refine OpsT.pures (r := []) [0, 1] [2, 3] (S' := [(2, .int .i32 65533), (3, .int .i64 0)]) (by kernel_rfl) ?_
    refine OpsT.done ?_
    refine Qn.then ?_
    refine CodT.ret ?_
    refine Qn.ret_then ?_
    have e := someS h0
    subst e
    refine Qn.keep [2, 3] (S' := [(2, .int .i32 65533), (3, .int .i64 0)]) (by kernel_rfl) ?_
    exact post_ret (v := .tuple #[.int .i32 65533, .int .i64 0]) (fun a ha => RunRes.run (vs := [.int .i32 65533, .int .i64 0]) (.tmp (t := 2) (by kernel_rfl) (.tmp (t := 3) (by kernel_rfl) .nil)) ha (by kernel_rfl)) ⟨rfl, hI⟩
  · rw [if_neg hb1] at h0
    refine CodT.no' (b := decide ((a0.size : Int) < 1)) (by kernel_rfl) (by simpa using hb1) ?_
    refine CodT.skip ?_
    refine Qn.then ?_
    refine CodT.seq ?_
    refine CodT.regionL [0, 1, 2] (by kernel_rfl) ?_
    refine OpsT.pures (r := [1, 2]) [0] [0, 4, 17] (S' := [(0, .string a0), (4, .int .i64 (a0.size : Int)), (17, .string a0)]) (by kernel_rfl) ?_
    obtain ⟨hg2, h0⟩ := guardS h0
    refine OpsT.cons (Does.yi (Yl.indexStr (d := 18) (T := 9) (k := .i64) (j := 0) (s := a0) (by kernel_rfl) Go.Proofs.Tryd.underlying9 hg2.1 hg2.2) hI ?_)
    refine OpsT.pures (r := []) [2] [0, 4, 5] (S' := [(0, .string a0), (4, .int .i64 (a0.size : Int)), (5, .int .u8 (bt a0 0))]) (by kernel_rfl) ?_
    refine OpsT.done ?_
    refine Qn.then ?_
    refine CodT.seq ?_
    refine CodT.regionL [0, 1, 2, 3] (by kernel_rfl) ?_
    refine OpsT.pures (r := [1, 2, 3]) [0] [0, 4, 5, 19] (S' := [(0, .string a0), (4, .int .i64 (a0.size : Int)), (5, .int .u8 (bt a0 0)), (19, .int .u8 (bt a0 0))]) (by kernel_rfl) ?_
    obtain ⟨hg3, h0⟩ := guardS h0
    obtain ⟨hr4, hl5⟩ := RdS.getC hT.1 (n := 256) (by kernel_rfl) hg3.1 hg3.2
    refine OpsT.cons (Does.yi (Yl.indexArr (d := 20) (T := 108) (k := .u8) (j := bt a0 0) (g := 0) (o := 0) (by kernel_rfl) Go.Proofs.Tryd.underlying108 ty5 hg3.1 hg3.2) hI ?_)
    refine OpsT.cons (Does.yi (Yl.load (d := 21) (T := 5) (v := .int .u8 (gt tab0 (bt a0 0))) (by kernel_rfl) (ldR ty5 (v := .int .u8 (gt tab0 (bt a0 0))) 0 (fun w hC => hr4 w0 w _ hC) (by kernel_rfl))) hI ?_)
    refine OpsT.pures (r := []) [3] [0, 4, 5, 6] (S' := [(0, .string a0), (4, .int .i64 (a0.size : Int)), (5, .int .u8 (bt a0 0)), (6, .int .u8 (gt tab0 (bt a0 0)))]) (by kernel_rfl) ?_
    refine OpsT.done ?_
    refine Qn.then ?_
    refine CodT.seq ?_
    refine CodT.seq ?_
    refine CodT.regionL [0, 1] (by kernel_rfl) ?_
    refine OpsT.pures (r := []) [0, 1] [0, 4, 5, 6, 23] (S' := [(0, .string a0), (4, .int .i64 (a0.size : Int)), (5, .int .u8 (bt a0 0)), (6, .int .u8 (gt tab0 (bt a0 0))), (23, .bool (decide ((gt tab0 (bt a0 0)) ≥ 240)))]) (by kernel_rfl) ?_
    refine OpsT.done ?_
    refine Qn.then ?_
    by_cases hb6 : (decide ((gt tab0 (bt a0 0)) ≥ 240)) = true
    · rw [if_pos hb6] at h0
      refine CodT.yes' (b := decide ((gt tab0 (bt a0 0)) ≥ 240)) (by kernel_rfl) hb6 ?_
      refine CodT.seq ?_
      refine CodT.regionL [0, 1, 2, 3, 4] (by kernel_rfl) ?_
      refine OpsT.pures (r := []) [0, 1, 2, 3, 4] [0, 7] (S' := [(0, .string a0), (7, .int .i32 (bShr .i32 (bShl .i32 (wi32 (gt tab0 (bt a0 0))) 31) 31))]) (by kernel_rfl) ?_
      refine OpsT.done ?_
      refine Qn.then ?_
      refine CodT.seq ?_
      refine CodT.regionL [0, 1, 2, 3, 4, 5, 6, 7, 8, 9] (by kernel_rfl) ?_
      refine OpsT.pures (r := [1, 2, 3, 4, 5, 6, 7, 8, 9]) [0] [7, 28] (S' := [(7, .int .i32 (bShr .i32 (bShl .i32 (wi32 (gt tab0 (bt a0 0))) 31) 31)), (28, .string a0)]) (by kernel_rfl) ?_
      obtain ⟨hg7, h0⟩ := guardS h0
      refine OpsT.cons (Does.yi (Yl.indexStr (d := 29) (T := 9) (k := .i64) (j := 0) (s := a0) (by kernel_rfl) Go.Proofs.Tryd.underlying9 hg7.1 hg7.2) hI ?_)
      refine OpsT.pures (r := []) [2, 3, 4, 5, 6, 7, 8, 9] [2, 3] (S' := [(2, .int .i32 (bOr .i32 (bAndNot .i32 (wi32 (bt a0 0)) (bShr .i32 (bShl .i32 (wi32 (gt tab0 (bt a0 0))) 31) 31)) (bAnd .i32 65533 (bShr .i32 (bShl .i32 (wi32 (gt tab0 (bt a0 0))) 31) 31)))), (3, .int .i64 1)]) (by kernel_rfl) ?_
      refine OpsT.done ?_
      refine Qn.then ?_
      refine CodT.ret ?_
      refine Qn.ret_then ?_
      have e := someS h0
      subst e
      refine Qn.keep [2, 3] (S' := [(2, .int .i32 (bOr .i32 (bAndNot .i32 (wi32 (bt a0 0)) (bShr .i32 (bShl .i32 (wi32 (gt tab0 (bt a0 0))) 31) 31)) (bAnd .i32 65533 (bShr .i32 (bShl .i32 (wi32 (gt tab0 (bt a0 0))) 31) 31)))), (3, .int .i64 1)]) (by kernel_rfl) ?_
      exact post_ret (v := .tuple #[.int .i32 (bOr .i32 (bAndNot .i32 (wi32 (bt a0 0)) (bShr .i32 (bShl .i32 (wi32 (gt tab0 (bt a0 0))) 31) 31)) (bAnd .i32 65533 (bShr .i32 (bShl .i32 (wi32 (gt tab0 (bt a0 0))) 31) 31))), .int .i64 1]) (fun a ha => RunRes.run (vs := [.int .i32 (bOr .i32 (bAndNot .i32 (wi32 (bt a0 0)) (bShr .i32 (bShl .i32 (wi32 (gt tab0 (bt a0 0))) 31) 31)) (bAnd .i32 65533 (bShr .i32 (bShl .i32 (wi32 (gt tab0 (bt a0 0))) 31) 31))), .int .i64 1]) (.tmp (t := 2) (by kernel_rfl) (.tmp (t := 3) (by kernel_rfl) .nil)) ha (by kernel_rfl)) ⟨rfl, hI⟩
    · rw [if_neg hb6] at h0
      refine CodT.no' (b := decide ((gt tab0 (bt a0 0)) ≥ 240)) (by kernel_rfl) (by simpa using hb6) ?_
      refine CodT.skip ?_
      refine Qn.then ?_
      refine CodT.seq ?_
      refine CodT.regionL [0, 1, 2, 3] (by kernel_rfl) ?_
      refine OpsT.pures (r := []) [0, 1, 2, 3] [0, 4, 5, 6, 8] (S' := [(0, .string a0), (4, .int .i64 (a0.size : Int)), (5, .int .u8 (bt a0 0)), (6, .int .u8 (gt tab0 (bt a0 0))), (8, .int .i64 (wi64 (bAnd .u8 (gt tab0 (bt a0 0)) 7)))]) (by kernel_rfl) ?_
      refine OpsT.done ?_
      refine Qn.then ?_
      refine CodT.seq ?_
      refine CodT.regionL [0, 1, 2, 3, 4, 5] (by kernel_rfl) ?_
      refine OpsT.pures (r := [2, 3, 4, 5]) [0, 1] [0, 4, 5, 8, 40] (S' := [(0, .string a0), (4, .int .i64 (a0.size : Int)), (5, .int .u8 (bt a0 0)), (8, .int .i64 (wi64 (bAnd .u8 (gt tab0 (bt a0 0)) 7))), (40, .int .u8 (bShr .u8 (gt tab0 (bt a0 0)) 4))]) (by kernel_rfl) ?_
      obtain ⟨hg8, h0⟩ := guardS h0
      obtain ⟨hr9, hl10⟩ := RdS.getC hT.2.1 (n := 16) (by kernel_rfl) hg8.1 hg8.2
      refine OpsT.cons (Does.yi (Yl.indexArr (d := 41) (T := 111) (k := .u8) (j := bShr .u8 (gt tab0 (bt a0 0)) 4) (g := 1) (o := 0) (by kernel_rfl) Go.Proofs.Tryd.underlying111 ty110 hg8.1 hg8.2) hI ?_)
      refine OpsT.cons (Does.yi (Yl.load (d := 42) (T := 110) (v := .agg (c_Utf8AcceptRange (gt tab1 (bShr .u8 (gt tab0 (bt a0 0)) 4))).toArray) (by kernel_rfl) (ldRN ty110 (cs := c_Utf8AcceptRange (gt tab1 (bShr .u8 (gt tab0 (bt a0 0)) 4))) 0 (fun w hC => hr9 w0 w _ hC) hl10 (whole _ _ hl10))) hI ?_)
      refine OpsT.cons (Does.allocL (d := 9) (T := 110) (c_Utf8AcceptRange (Utf8AcceptRange.mk 0 0)) (by kernel_rfl) ty110 hI (by kernel_rfl) ?_)
      intro b11 w hI
      refine OpsT.cons (Does.storeLit (T := 110) (b := b11) (o := 0) (v := .agg (c_Utf8AcceptRange (gt tab1 (bShr .u8 (gt tab0 (bt a0 0)) 4))).toArray) (l := c_Utf8AcceptRange (Utf8AcceptRange.mk 0 0)) (vs := c_Utf8AcceptRange (gt tab1 (bShr .u8 (gt tab0 (bt a0 0)) 4))) (L' := c_Utf8AcceptRange (gt tab1 (bShr .u8 (gt tab0 (bt a0 0)) 4))) (by kernel_rfl) ty110 hI (by kernel_rfl) (by kernel_rfl) (by kernel_rfl) (by kernel_rfl) (by kernel_rfl) ?_)
      intro w hI
      refine OpsT.done ?_
      refine Qn.then ?_
      refine CodT.seq ?_
      refine CodT.seq ?_
      refine CodT.regionL [0, 1, 2] (by kernel_rfl) ?_
      refine OpsT.pures (r := []) [0, 1, 2] [0, 5, 8, 9, 45] (S' := [(0, .string a0), (5, .int .u8 (bt a0 0)), (8, .int .i64 (wi64 (bAnd .u8 (gt tab0 (bt a0 0)) 7))), (9, .pointer (some ⟨b11, 0, none⟩)), (45, .bool (decide ((a0.size : Int) < (wi64 (bAnd .u8 (gt tab0 (bt a0 0)) 7)))))]) (by kernel_rfl) ?_
      refine OpsT.done ?_
      refine Qn.then ?_
      by_cases hb12 : (decide ((a0.size : Int) < (wi64 (bAnd .u8 (gt tab0 (bt a0 0)) 7)))) = true
      · rw [if_pos hb12] at h0
        refine CodT.yes' (b := decide ((a0.size : Int) < (wi64 (bAnd .u8 (gt tab0 (bt a0 0)) 7)))) (by kernel_rfl) hb12 ?_
        refine CodT.seq ?_
        refine CodT.regionL [0, 1] (by kernel_rfl) ?_
        refine OpsT.pures (r := []) [0, 1] [2, 3] (S' := [(2, .int .i32 65533), (3, .int .i64 1)]) (by kernel_rfl) ?_
        refine OpsT.done ?_
        refine Qn.then ?_
        refine CodT.ret ?_
        refine Qn.ret_then ?_
        have hI := hI.drop
        have e := someS h0
        subst e
        refine Qn.keep [2, 3] (S' := [(2, .int .i32 65533), (3, .int .i64 1)]) (by kernel_rfl) ?_
        exact post_ret (v := .tuple #[.int .i32 65533, .int .i64 1]) (fun a ha => RunRes.run (vs := [.int .i32 65533, .int .i64 1]) (.tmp (t := 2) (by kernel_rfl) (.tmp (t := 3) (by kernel_rfl) .nil)) ha (by kernel_rfl)) ⟨rfl, hI⟩
      · rw [if_neg hb12] at h0
        refine CodT.no' (b := decide ((a0.size : Int) < (wi64 (bAnd .u8 (gt tab0 (bt a0 0)) 7)))) (by kernel_rfl) (by simpa using hb12) ?_
        refine CodT.skip ?_
        refine Qn.then ?_
        refine CodT.seq ?_
        refine CodT.regionL [0, 1, 2] (by kernel_rfl) ?_
        refine OpsT.pures (r := [1, 2]) [0] [0, 5, 8, 9, 46] (S' := [(0, .string a0), (5, .int .u8 (bt a0 0)), (8, .int .i64 (wi64 (bAnd .u8 (gt tab0 (bt a0 0)) 7))), (9, .pointer (some ⟨b11, 0, none⟩)), (46, .string a0)]) (by kernel_rfl) ?_
        obtain ⟨hg13, h0⟩ := guardS h0
        refine OpsT.cons (Does.yi (Yl.indexStr (d := 47) (T := 9) (k := .i64) (j := 1) (s := a0) (by kernel_rfl) Go.Proofs.Tryd.underlying9 hg13.1 hg13.2) hI ?_)
        refine OpsT.pures (r := []) [2] [0, 5, 8, 9, 10] (S' := [(0, .string a0), (5, .int .u8 (bt a0 0)), (8, .int .i64 (wi64 (bAnd .u8 (gt tab0 (bt a0 0)) 7))), (9, .pointer (some ⟨b11, 0, none⟩)), (10, .int .u8 (bt a0 1))]) (by kernel_rfl) ?_
        refine OpsT.done ?_
        refine Qn.then ?_
        refine CodT.seq ?_
        obtain ⟨r1, h1, h0⟩ := bindS h0
        refine CodT.meet (fun a w => ∃ (x14 : Bool), x14 = r1 ∧ Fr 117 [(0, .string a0), (5, .int .u8 (bt a0 0)), (8, .int .i64 (wi64 (bAnd .u8 (gt tab0 (bt a0 0)) 7))), (10, .int .u8 (bt a0 1)), (57, .bool x14)] a ∧ Inv w0 Z w A) ?_ ?_
        ·
          refine CodT.regionL [0, 1, 2, 3, 4, 5, 6, 7, 8, 9] (by kernel_rfl) ?_
          refine OpsT.pures (r := [2, 3, 4, 5, 6, 7, 8, 9]) [0, 1] [0, 5, 8, 9, 10, 48, 49] (S' := [(0, .string a0), (5, .int .u8 (bt a0 0)), (8, .int .i64 (wi64 (bAnd .u8 (gt tab0 (bt a0 0)) 7))), (9, .pointer (some ⟨b11, 0, none⟩)), (10, .int .u8 (bt a0 1)), (48, .int .u8 (bt a0 1)), (49, .pointer (some ⟨b11, 0, none⟩))]) (by kernel_rfl) ?_
          refine OpsT.cons (Does.yi (Yl.load (d := 50) (T := 5) (v := .int .u8 ((gt tab1 (bShr .u8 (gt tab0 (bt a0 0)) 4)).lo)) (by kernel_rfl) (ldB ty5 (l := c_Utf8AcceptRange (gt tab1 (bShr .u8 (gt tab0 (bt a0 0)) 4))) (o := 0) (v := .int .u8 ((gt tab1 (bShr .u8 (gt tab0 (bt a0 0)) 4)).lo)) (ent_refl _) (by kernel_rfl))) hI ?_)
          refine OpsT.pures (r := [5, 6, 7, 8, 9]) [3, 4] [0, 5, 8, 9, 10, 52] (S' := [(0, .string a0), (5, .int .u8 (bt a0 0)), (8, .int .i64 (wi64 (bAnd .u8 (gt tab0 (bt a0 0)) 7))), (9, .pointer (some ⟨b11, 0, none⟩)), (10, .int .u8 (bt a0 1)), (52, .bool (decide ((bt a0 1) < ((gt tab1 (bShr .u8 (gt tab0 (bt a0 0)) 4)).lo))))]) (by kernel_rfl) ?_
          by_cases hb15 : (decide ((bt a0 1) < ((gt tab1 (bShr .u8 (gt tab0 (bt a0 0)) 4)).lo))) = true
          · rw [if_pos hb15] at h1
            refine OpsT.keep [0, 5, 8, 9, 10, 52] (S' := [(0, .string a0), (5, .int .u8 (bt a0 0)), (8, .int .i64 (wi64 (bAnd .u8 (gt tab0 (bt a0 0)) 7))), (9, .pointer (some ⟨b11, 0, none⟩)), (10, .int .u8 (bt a0 1)), (52, .bool true)]) (by (try simp only [hb15]); kernel_rfl) ?_
            refine OpsT.pures (r := []) [5, 6, 7, 8, 9] [0, 5, 8, 10, 57] (S' := [(0, .string a0), (5, .int .u8 (bt a0 0)), (8, .int .i64 (wi64 (bAnd .u8 (gt tab0 (bt a0 0)) 7))), (10, .int .u8 (bt a0 1)), (57, .bool true)]) (by kernel_rfl) ?_
            refine OpsT.done ?_
            have hI := hI.drop
            have e := someS h1
            subst e
            exact Qn.thenJ fun a ha => ⟨true, rfl, ha.keep [0, 5, 8, 10, 57] (by kernel_rfl), hI⟩
          · rw [if_neg hb15] at h1
            have hb15 : (decide ((bt a0 1) < ((gt tab1 (bShr .u8 (gt tab0 (bt a0 0)) 4)).lo))) = false := by simpa using hb15
            refine OpsT.keep [0, 5, 8, 9, 10, 52] (S' := [(0, .string a0), (5, .int .u8 (bt a0 0)), (8, .int .i64 (wi64 (bAnd .u8 (gt tab0 (bt a0 0)) 7))), (9, .pointer (some ⟨b11, 0, none⟩)), (10, .int .u8 (bt a0 1)), (52, .bool false)]) (by (try simp only [hb15]); kernel_rfl) ?_
            refine OpsT.pures (r := [6, 7, 8, 9]) [5] [0, 5, 8, 10, 52, 53] (S' := [(0, .string a0), (5, .int .u8 (bt a0 0)), (8, .int .i64 (wi64 (bAnd .u8 (gt tab0 (bt a0 0)) 7))), (10, .int .u8 (bt a0 1)), (52, .bool false), (53, .pointer (some ⟨b11, 1, none⟩))]) (by kernel_rfl) ?_
            refine OpsT.cons (Does.yi (Yl.load (d := 54) (T := 5) (v := .int .u8 ((gt tab1 (bShr .u8 (gt tab0 (bt a0 0)) 4)).hi)) (by kernel_rfl) (ldB ty5 (l := c_Utf8AcceptRange (gt tab1 (bShr .u8 (gt tab0 (bt a0 0)) 4))) (o := 1) (v := .int .u8 ((gt tab1 (bShr .u8 (gt tab0 (bt a0 0)) 4)).hi)) (ent_refl _) (by kernel_rfl))) hI ?_)
            refine OpsT.pures (r := []) [7, 8, 9] [0, 5, 8, 10, 57] (S' := [(0, .string a0), (5, .int .u8 (bt a0 0)), (8, .int .i64 (wi64 (bAnd .u8 (gt tab0 (bt a0 0)) 7))), (10, .int .u8 (bt a0 1)), (57, .bool (decide (((gt tab1 (bShr .u8 (gt tab0 (bt a0 0)) 4)).hi) < (bt a0 1))))]) (by kernel_rfl) ?_
            refine OpsT.done ?_
            have hI := hI.drop
            have e := someS h1
            subst e
            exact Qn.thenJ fun a ha => ⟨decide (((gt tab1 (bShr .u8 (gt tab0 (bt a0 0)) 4)).hi) < (bt a0 1)), rfl, ha.keep [0, 5, 8, 10, 57] (by kernel_rfl), hI⟩
        ·
          rintro a w ⟨x14, rfl, ha, hI⟩
          try dsimp only at h0
          refine CodT.of ?_ ha
          by_cases hb16 : x14 = true
          · rw [if_pos hb16] at h0
            refine CodT.yes' (b := x14) (by kernel_rfl) hb16 ?_
            refine CodT.seq ?_
            refine CodT.regionL [0, 1] (by kernel_rfl) ?_
            refine OpsT.pures (r := []) [0, 1] [2, 3] (S' := [(2, .int .i32 65533), (3, .int .i64 1)]) (by kernel_rfl) ?_
            refine OpsT.done ?_
            refine Qn.then ?_
            refine CodT.ret ?_
            refine Qn.ret_then ?_
            have e := someS h0
            subst e
            refine Qn.keep [2, 3] (S' := [(2, .int .i32 65533), (3, .int .i64 1)]) (by kernel_rfl) ?_
            exact post_ret (v := .tuple #[.int .i32 65533, .int .i64 1]) (fun a ha => RunRes.run (vs := [.int .i32 65533, .int .i64 1]) (.tmp (t := 2) (by kernel_rfl) (.tmp (t := 3) (by kernel_rfl) .nil)) ha (by kernel_rfl)) ⟨rfl, hI⟩
          · rw [if_neg hb16] at h0
            refine CodT.no' (b := x14) (by kernel_rfl) (by simpa using hb16) ?_
            refine CodT.skip ?_
            refine Qn.then ?_
            refine CodT.seq ?_
            refine CodT.seq ?_
            refine CodT.regionL [0, 1] (by kernel_rfl) ?_
            refine OpsT.pures (r := []) [0, 1] [0, 5, 8, 10, 59] (S' := [(0, .string a0), (5, .int .u8 (bt a0 0)), (8, .int .i64 (wi64 (bAnd .u8 (gt tab0 (bt a0 0)) 7))), (10, .int .u8 (bt a0 1)), (59, .bool (decide ((wi64 (bAnd .u8 (gt tab0 (bt a0 0)) 7)) ≤ 2)))]) (by kernel_rfl) ?_
            refine OpsT.done ?_
            refine Qn.then ?_
            by_cases hb17 : (decide ((wi64 (bAnd .u8 (gt tab0 (bt a0 0)) 7)) ≤ 2)) = true
            · rw [if_pos hb17] at h0
              refine CodT.yes' (b := decide ((wi64 (bAnd .u8 (gt tab0 (bt a0 0)) 7)) ≤ 2)) (by kernel_rfl) hb17 ?_
              refine CodT.seq ?_
              refine CodT.regionL [0, 1, 2, 3, 4, 5, 6, 7, 8, 9] (by kernel_rfl) ?_
              refine OpsT.pures (r := []) [0, 1, 2, 3, 4, 5, 6, 7, 8, 9] [2, 3] (S' := [(2, .int .i32 (bOr .i32 (bShl .i32 (wi32 (bAnd .u8 (bt a0 0) 31)) 6) (wi32 (bAnd .u8 (bt a0 1) 63)))), (3, .int .i64 2)]) (by kernel_rfl) ?_
              refine OpsT.done ?_
              refine Qn.then ?_
              refine CodT.ret ?_
              refine Qn.ret_then ?_
              have e := someS h0
              subst e
              refine Qn.keep [2, 3] (S' := [(2, .int .i32 (bOr .i32 (bShl .i32 (wi32 (bAnd .u8 (bt a0 0) 31)) 6) (wi32 (bAnd .u8 (bt a0 1) 63)))), (3, .int .i64 2)]) (by kernel_rfl) ?_
              exact post_ret (v := .tuple #[.int .i32 (bOr .i32 (bShl .i32 (wi32 (bAnd .u8 (bt a0 0) 31)) 6) (wi32 (bAnd .u8 (bt a0 1) 63))), .int .i64 2]) (fun a ha => RunRes.run (vs := [.int .i32 (bOr .i32 (bShl .i32 (wi32 (bAnd .u8 (bt a0 0) 31)) 6) (wi32 (bAnd .u8 (bt a0 1) 63))), .int .i64 2]) (.tmp (t := 2) (by kernel_rfl) (.tmp (t := 3) (by kernel_rfl) .nil)) ha (by kernel_rfl)) ⟨rfl, hI⟩
            · rw [if_neg hb17] at h0
              refine CodT.no' (b := decide ((wi64 (bAnd .u8 (gt tab0 (bt a0 0)) 7)) ≤ 2)) (by kernel_rfl) (by simpa using hb17) ?_
              refine CodT.skip ?_
              refine Qn.then ?_
              refine CodT.seq ?_
              refine CodT.regionL [0, 1, 2] (by kernel_rfl) ?_
              refine OpsT.pures (r := [1, 2]) [0] [0, 5, 8, 10, 68] (S' := [(0, .string a0), (5, .int .u8 (bt a0 0)), (8, .int .i64 (wi64 (bAnd .u8 (gt tab0 (bt a0 0)) 7))), (10, .int .u8 (bt a0 1)), (68, .string a0)]) (by kernel_rfl) ?_
              obtain ⟨hg18, h0⟩ := guardS h0
              refine OpsT.cons (Does.yi (Yl.indexStr (d := 69) (T := 9) (k := .i64) (j := 2) (s := a0) (by kernel_rfl) Go.Proofs.Tryd.underlying9 hg18.1 hg18.2) hI ?_)
              refine OpsT.pures (r := []) [2] [0, 5, 8, 10, 11] (S' := [(0, .string a0), (5, .int .u8 (bt a0 0)), (8, .int .i64 (wi64 (bAnd .u8 (gt tab0 (bt a0 0)) 7))), (10, .int .u8 (bt a0 1)), (11, .int .u8 (bt a0 2))]) (by kernel_rfl) ?_
              refine OpsT.done ?_
              refine Qn.then ?_
              refine CodT.seq ?_
              obtain ⟨r1, h1, h0⟩ := bindS h0
              refine CodT.meet (fun a w => ∃ (x19 : Bool), x19 = r1 ∧ Fr 117 [(0, .string a0), (5, .int .u8 (bt a0 0)), (8, .int .i64 (wi64 (bAnd .u8 (gt tab0 (bt a0 0)) 7))), (10, .int .u8 (bt a0 1)), (11, .int .u8 (bt a0 2)), (75, .bool x19)] a ∧ Inv w0 Z w A) ?_ ?_
              ·
                refine CodT.regionL [0, 1, 2, 3, 4, 5] (by kernel_rfl) ?_
                refine OpsT.pures (r := [3, 4, 5]) [0, 1, 2] [0, 5, 8, 10, 11, 72] (S' := [(0, .string a0), (5, .int .u8 (bt a0 0)), (8, .int .i64 (wi64 (bAnd .u8 (gt tab0 (bt a0 0)) 7))), (10, .int .u8 (bt a0 1)), (11, .int .u8 (bt a0 2)), (72, .bool (decide ((bt a0 2) < 128)))]) (by kernel_rfl) ?_
                by_cases hb20 : (decide ((bt a0 2) < 128)) = true
                · rw [if_pos hb20] at h1
                  refine OpsT.keep [0, 5, 8, 10, 11, 72] (S' := [(0, .string a0), (5, .int .u8 (bt a0 0)), (8, .int .i64 (wi64 (bAnd .u8 (gt tab0 (bt a0 0)) 7))), (10, .int .u8 (bt a0 1)), (11, .int .u8 (bt a0 2)), (72, .bool true)]) (by (try simp only [hb20]); kernel_rfl) ?_
                  refine OpsT.pures (r := []) [3, 4, 5] [0, 5, 8, 10, 11, 75] (S' := [(0, .string a0), (5, .int .u8 (bt a0 0)), (8, .int .i64 (wi64 (bAnd .u8 (gt tab0 (bt a0 0)) 7))), (10, .int .u8 (bt a0 1)), (11, .int .u8 (bt a0 2)), (75, .bool true)]) (by kernel_rfl) ?_
                  refine OpsT.done ?_
                  have e := someS h1
                  subst e
                  exact Qn.thenJ fun a ha => ⟨true, rfl, ha.keep [0, 5, 8, 10, 11, 75] (by kernel_rfl), hI⟩
                · rw [if_neg hb20] at h1
                  have hb20 : (decide ((bt a0 2) < 128)) = false := by simpa using hb20
                  refine OpsT.keep [0, 5, 8, 10, 11, 72] (S' := [(0, .string a0), (5, .int .u8 (bt a0 0)), (8, .int .i64 (wi64 (bAnd .u8 (gt tab0 (bt a0 0)) 7))), (10, .int .u8 (bt a0 1)), (11, .int .u8 (bt a0 2)), (72, .bool false)]) (by (try simp only [hb20]); kernel_rfl) ?_
                  refine OpsT.pures (r := []) [3, 4, 5] [0, 5, 8, 10, 11, 75] (S' := [(0, .string a0), (5, .int .u8 (bt a0 0)), (8, .int .i64 (wi64 (bAnd .u8 (gt tab0 (bt a0 0)) 7))), (10, .int .u8 (bt a0 1)), (11, .int .u8 (bt a0 2)), (75, .bool (decide ((191 : Int) < (bt a0 2))))]) (by kernel_rfl) ?_
                  refine OpsT.done ?_
                  have e := someS h1
                  subst e
                  exact Qn.thenJ fun a ha => ⟨decide ((191 : Int) < (bt a0 2)), rfl, ha.keep [0, 5, 8, 10, 11, 75] (by kernel_rfl), hI⟩
              ·
                rintro a w ⟨x19, rfl, ha, hI⟩
                try dsimp only at h0
                refine CodT.of ?_ ha
                by_cases hb21 : x19 = true
                · rw [if_pos hb21] at h0
                  refine CodT.yes' (b := x19) (by kernel_rfl) hb21 ?_
                  refine CodT.seq ?_
                  refine CodT.regionL [0, 1] (by kernel_rfl) ?_
                  refine OpsT.pures (r := []) [0, 1] [2, 3] (S' := [(2, .int .i32 65533), (3, .int .i64 1)]) (by kernel_rfl) ?_
                  refine OpsT.done ?_
                  refine Qn.then ?_
                  refine CodT.ret ?_
                  refine Qn.ret_then ?_
                  have e := someS h0
                  subst e
                  refine Qn.keep [2, 3] (S' := [(2, .int .i32 65533), (3, .int .i64 1)]) (by kernel_rfl) ?_
                  exact post_ret (v := .tuple #[.int .i32 65533, .int .i64 1]) (fun a ha => RunRes.run (vs := [.int .i32 65533, .int .i64 1]) (.tmp (t := 2) (by kernel_rfl) (.tmp (t := 3) (by kernel_rfl) .nil)) ha (by kernel_rfl)) ⟨rfl, hI⟩
                · rw [if_neg hb21] at h0
                  refine CodT.no' (b := x19) (by kernel_rfl) (by simpa using hb21) ?_
                  refine CodT.skip ?_
                  refine Qn.then ?_
                  refine CodT.seq ?_
                  refine CodT.seq ?_
                  refine CodT.regionL [0, 1] (by kernel_rfl) ?_
                  refine OpsT.pures (r := []) [0, 1] [0, 5, 10, 11, 77] (S' := [(0, .string a0), (5, .int .u8 (bt a0 0)), (10, .int .u8 (bt a0 1)), (11, .int .u8 (bt a0 2)), (77, .bool (decide ((wi64 (bAnd .u8 (gt tab0 (bt a0 0)) 7)) ≤ 3)))]) (by kernel_rfl) ?_
                  refine OpsT.done ?_
                  refine Qn.then ?_
                  by_cases hb22 : (decide ((wi64 (bAnd .u8 (gt tab0 (bt a0 0)) 7)) ≤ 3)) = true
                  · rw [if_pos hb22] at h0
                    refine CodT.yes' (b := decide ((wi64 (bAnd .u8 (gt tab0 (bt a0 0)) 7)) ≤ 3)) (by kernel_rfl) hb22 ?_
                    refine CodT.seq ?_
                    refine CodT.regionL [0, 1, 2, 3, 4, 5, 6, 7, 8, 9, 10, 11, 12, 13, 14] (by kernel_rfl) ?_
                    refine OpsT.pures (r := []) [0, 1, 2, 3, 4, 5, 6, 7, 8, 9, 10, 11, 12, 13, 14] [2, 3] (S' := [(2, .int .i32 (bOr .i32 (bOr .i32 (bShl .i32 (wi32 (bAnd .u8 (bt a0 0) 15)) 12) (bShl .i32 (wi32 (bAnd .u8 (bt a0 1) 63)) 6)) (wi32 (bAnd .u8 (bt a0 2) 63)))), (3, .int .i64 3)]) (by kernel_rfl) ?_
                    refine OpsT.done ?_
                    refine Qn.then ?_
                    refine CodT.ret ?_
                    refine Qn.ret_then ?_
                    have e := someS h0
                    subst e
                    refine Qn.keep [2, 3] (S' := [(2, .int .i32 (bOr .i32 (bOr .i32 (bShl .i32 (wi32 (bAnd .u8 (bt a0 0) 15)) 12) (bShl .i32 (wi32 (bAnd .u8 (bt a0 1) 63)) 6)) (wi32 (bAnd .u8 (bt a0 2) 63)))), (3, .int .i64 3)]) (by kernel_rfl) ?_
                    exact post_ret (v := .tuple #[.int .i32 (bOr .i32 (bOr .i32 (bShl .i32 (wi32 (bAnd .u8 (bt a0 0) 15)) 12) (bShl .i32 (wi32 (bAnd .u8 (bt a0 1) 63)) 6)) (wi32 (bAnd .u8 (bt a0 2) 63))), .int .i64 3]) (fun a ha => RunRes.run (vs := [.int .i32 (bOr .i32 (bOr .i32 (bShl .i32 (wi32 (bAnd .u8 (bt a0 0) 15)) 12) (bShl .i32 (wi32 (bAnd .u8 (bt a0 1) 63)) 6)) (wi32 (bAnd .u8 (bt a0 2) 63))), .int .i64 3]) (.tmp (t := 2) (by kernel_rfl) (.tmp (t := 3) (by kernel_rfl) .nil)) ha (by kernel_rfl)) ⟨rfl, hI⟩
                  · rw [if_neg hb22] at h0
                    refine CodT.no' (b := decide ((wi64 (bAnd .u8 (gt tab0 (bt a0 0)) 7)) ≤ 3)) (by kernel_rfl) (by simpa using hb22) ?_
                    refine CodT.skip ?_
                    refine Qn.then ?_
                    refine CodT.seq ?_
                    refine CodT.regionL [0, 1, 2] (by kernel_rfl) ?_
                    refine OpsT.pures (r := [1, 2]) [0] [5, 10, 11, 91] (S' := [(5, .int .u8 (bt a0 0)), (10, .int .u8 (bt a0 1)), (11, .int .u8 (bt a0 2)), (91, .string a0)]) (by kernel_rfl) ?_
                    obtain ⟨hg23, h0⟩ := guardS h0
                    refine OpsT.cons (Does.yi (Yl.indexStr (d := 92) (T := 9) (k := .i64) (j := 3) (s := a0) (by kernel_rfl) Go.Proofs.Tryd.underlying9 hg23.1 hg23.2) hI ?_)
                    refine OpsT.pures (r := []) [2] [5, 10, 11, 12] (S' := [(5, .int .u8 (bt a0 0)), (10, .int .u8 (bt a0 1)), (11, .int .u8 (bt a0 2)), (12, .int .u8 (bt a0 3))]) (by kernel_rfl) ?_
                    refine OpsT.done ?_
                    refine Qn.then ?_
                    refine CodT.seq ?_
                    obtain ⟨r1, h1, h0⟩ := bindS h0
                    refine CodT.meet (fun a w => ∃ (x24 : Bool), x24 = r1 ∧ Fr 117 [(5, .int .u8 (bt a0 0)), (10, .int .u8 (bt a0 1)), (11, .int .u8 (bt a0 2)), (12, .int .u8 (bt a0 3)), (98, .bool x24)] a ∧ Inv w0 Z w A) ?_ ?_
                    ·
                      refine CodT.regionL [0, 1, 2, 3, 4, 5] (by kernel_rfl) ?_
                      refine OpsT.pures (r := [3, 4, 5]) [0, 1, 2] [5, 10, 11, 12, 95] (S' := [(5, .int .u8 (bt a0 0)), (10, .int .u8 (bt a0 1)), (11, .int .u8 (bt a0 2)), (12, .int .u8 (bt a0 3)), (95, .bool (decide ((bt a0 3) < 128)))]) (by kernel_rfl) ?_
                      by_cases hb25 : (decide ((bt a0 3) < 128)) = true
                      · rw [if_pos hb25] at h1
                        refine OpsT.keep [5, 10, 11, 12, 95] (S' := [(5, .int .u8 (bt a0 0)), (10, .int .u8 (bt a0 1)), (11, .int .u8 (bt a0 2)), (12, .int .u8 (bt a0 3)), (95, .bool true)]) (by (try simp only [hb25]); kernel_rfl) ?_
                        refine OpsT.pures (r := []) [3, 4, 5] [5, 10, 11, 12, 98] (S' := [(5, .int .u8 (bt a0 0)), (10, .int .u8 (bt a0 1)), (11, .int .u8 (bt a0 2)), (12, .int .u8 (bt a0 3)), (98, .bool true)]) (by kernel_rfl) ?_
                        refine OpsT.done ?_
                        have e := someS h1
                        subst e
                        exact Qn.thenJ fun a ha => ⟨true, rfl, ha.keep [5, 10, 11, 12, 98] (by kernel_rfl), hI⟩
                      · rw [if_neg hb25] at h1
                        have hb25 : (decide ((bt a0 3) < 128)) = false := by simpa using hb25
                        refine OpsT.keep [5, 10, 11, 12, 95] (S' := [(5, .int .u8 (bt a0 0)), (10, .int .u8 (bt a0 1)), (11, .int .u8 (bt a0 2)), (12, .int .u8 (bt a0 3)), (95, .bool false)]) (by (try simp only [hb25]); kernel_rfl) ?_
                        refine OpsT.pures (r := []) [3, 4, 5] [5, 10, 11, 12, 98] (S' := [(5, .int .u8 (bt a0 0)), (10, .int .u8 (bt a0 1)), (11, .int .u8 (bt a0 2)), (12, .int .u8 (bt a0 3)), (98, .bool (decide ((191 : Int) < (bt a0 3))))]) (by kernel_rfl) ?_
                        refine OpsT.done ?_
                        have e := someS h1
                        subst e
                        exact Qn.thenJ fun a ha => ⟨decide ((191 : Int) < (bt a0 3)), rfl, ha.keep [5, 10, 11, 12, 98] (by kernel_rfl), hI⟩
                    ·
                      rintro a w ⟨x24, rfl, ha, hI⟩
                      try dsimp only at h0
                      refine CodT.of ?_ ha
                      by_cases hb26 : x24 = true
                      · rw [if_pos hb26] at h0
                        refine CodT.yes' (b := x24) (by kernel_rfl) hb26 ?_
                        refine CodT.seq ?_
                        refine CodT.regionL [0, 1] (by kernel_rfl) ?_
                        refine OpsT.pures (r := []) [0, 1] [2, 3] (S' := [(2, .int .i32 65533), (3, .int .i64 1)]) (by kernel_rfl) ?_
                        refine OpsT.done ?_
                        refine Qn.then ?_
                        refine CodT.ret ?_
                        refine Qn.ret_then ?_
                        have e := someS h0
                        subst e
                        refine Qn.keep [2, 3] (S' := [(2, .int .i32 65533), (3, .int .i64 1)]) (by kernel_rfl) ?_
                        exact post_ret (v := .tuple #[.int .i32 65533, .int .i64 1]) (fun a ha => RunRes.run (vs := [.int .i32 65533, .int .i64 1]) (.tmp (t := 2) (by kernel_rfl) (.tmp (t := 3) (by kernel_rfl) .nil)) ha (by kernel_rfl)) ⟨rfl, hI⟩
                      · rw [if_neg hb26] at h0
                        refine CodT.no' (b := x24) (by kernel_rfl) (by simpa using hb26) ?_
                        refine CodT.skip ?_
                        refine Qn.then ?_
                        refine CodT.seq ?_
                        refine CodT.regionL [0, 1, 2, 3, 4, 5, 6, 7, 8, 9, 10, 11, 12, 13, 14, 15, 16, 17, 18, 19] (by kernel_rfl) ?_
                        refine OpsT.pures (r := []) [0, 1, 2, 3, 4, 5, 6, 7, 8, 9, 10, 11, 12, 13, 14, 15, 16, 17, 18, 19] [2, 3] (S' := [(2, .int .i32 (bOr .i32 (bOr .i32 (bOr .i32 (bShl .i32 (wi32 (bAnd .u8 (bt a0 0) 7)) 18) (bShl .i32 (wi32 (bAnd .u8 (bt a0 1) 63)) 12)) (bShl .i32 (wi32 (bAnd .u8 (bt a0 2) 63)) 6)) (wi32 (bAnd .u8 (bt a0 3) 63)))), (3, .int .i64 4)]) (by kernel_rfl) ?_
                        refine OpsT.done ?_
                        refine Qn.then ?_
                        refine CodT.ret ?_
                        have e := someS h0
                        subst e
                        refine Qn.keep [2, 3] (S' := [(2, .int .i32 (bOr .i32 (bOr .i32 (bOr .i32 (bShl .i32 (wi32 (bAnd .u8 (bt a0 0) 7)) 18) (bShl .i32 (wi32 (bAnd .u8 (bt a0 1) 63)) 12)) (bShl .i32 (wi32 (bAnd .u8 (bt a0 2) 63)) 6)) (wi32 (bAnd .u8 (bt a0 3) 63)))), (3, .int .i64 4)]) (by kernel_rfl) ?_
                        exact post_ret (v := .tuple #[.int .i32 (bOr .i32 (bOr .i32 (bOr .i32 (bShl .i32 (wi32 (bAnd .u8 (bt a0 0) 7)) 18) (bShl .i32 (wi32 (bAnd .u8 (bt a0 1) 63)) 12)) (bShl .i32 (wi32 (bAnd .u8 (bt a0 2) 63)) 6)) (wi32 (bAnd .u8 (bt a0 3) 63))), .int .i64 4]) (fun a ha => RunRes.run (vs := [.int .i32 (bOr .i32 (bOr .i32 (bOr .i32 (bShl .i32 (wi32 (bAnd .u8 (bt a0 0) 7)) 18) (bShl .i32 (wi32 (bAnd .u8 (bt a0 1) 63)) 12)) (bShl .i32 (wi32 (bAnd .u8 (bt a0 2) 63)) 6)) (wi32 (bAnd .u8 (bt a0 3) 63))), .int .i64 4]) (.tmp (t := 2) (by kernel_rfl) (.tmp (t := 3) (by kernel_rfl) .nil)) ha (by kernel_rfl)) ⟨rfl, hI⟩
set_option maxRecDepth 100000 in
set_option maxHeartbeats 4000000 in
/-- unicode/utf8.DecodeRuneInString -/
theorem c65 (w0 w : World) (Z : Hp) (A : HP) (hI : Inv w0 Z w A) (hT : Tabs Z) (a0 : ByteArray) (r : (Int × Int)) (h0 : utf8_DecodeRuneInString a0 = some r) :
    Calls prog 65 #[.string a0] w (fun e w' => e = .returned (.tuple #[.int .i32 r.1, .int .i64 r.2]) ∧ Inv w0 Z w' A) := by
  have e4 := calls_intro (R := (fun e w' => e = .returned (.tuple #[.int .i32 r.1, .int .i64 r.2]) ∧ Inv w0 Z w' A)) (w := w) (args := [.string a0]) (fn := Go.Proofs.Tryd.f65) 19 Go.Proofs.Tryd.func65 (by rfl) Go.Proofs.Tryd.ntmps65 (by kernel_rfl)
  refine e4 ?_
  clear e4
  unfold utf8_DecodeRuneInString at h0
  refine CodT.seq ?_
  refine CodT.regionL [0, 1] (by kernel_rfl) ?_
  refine OpsT.pures (r := []) [0, 1] [0] (S' := [(0, .string a0)]) (by kernel_rfl) ?_
  refine OpsT.done ?_
  refine Qn.then ?_
  refine CodT.seq ?_
  obtain ⟨r1, h1, h0⟩ := bindS h0
  refine CodT.meet (fun a w => ∃ (x1 : Bool), x1 = r1 ∧ Fr 19 [(0, .string a0), (10, .bool x1)] a ∧ Inv w0 Z w A) ?_ ?_
  ·
    refine CodT.regionL [0, 1, 2, 3, 4, 5, 6] (by kernel_rfl) ?_
    refine OpsT.pures (r := [3, 4, 5, 6]) [0, 1, 2] [0, 6] (S' := [(0, .string a0), (6, .bool (!(seq a0 (⟨#[]⟩ : ByteArray))))]) (by kernel_rfl) ?_
    by_cases hb2 : (!(seq a0 (⟨#[]⟩ : ByteArray))) = true
    · rw [if_pos hb2] at h1
      refine OpsT.keep [0, 6] (S' := [(0, .string a0), (6, .bool true)]) (by (try simp only [hb2]); kernel_rfl) ?_
      refine OpsT.pures (r := [4, 5, 6]) [3] [0, 6, 7] (S' := [(0, .string a0), (6, .bool true), (7, .string a0)]) (by kernel_rfl) ?_
      obtain ⟨hg3, h1⟩ := guardS h1
      refine OpsT.cons (Does.yi (Yl.indexStr (d := 8) (T := 9) (k := .i64) (j := 0) (s := a0) (by kernel_rfl) Go.Proofs.Tryd.underlying9 hg3.1 hg3.2) hI ?_)
      refine OpsT.pures (r := []) [5, 6] [0, 10] (S' := [(0, .string a0), (10, .bool (decide ((bt a0 0) < 128)))]) (by kernel_rfl) ?_
      refine OpsT.done ?_
      have e := someS h1
      subst e
      exact Qn.thenJ fun a ha => ⟨decide ((bt a0 0) < 128), rfl, ha.keep [0, 10] (by kernel_rfl), hI⟩
    · rw [if_neg hb2] at h1
      have hb2 : (!(seq a0 (⟨#[]⟩ : ByteArray))) = false := by simpa using hb2
      refine OpsT.keep [0, 6] (S' := [(0, .string a0), (6, .bool false)]) (by (try simp only [hb2]); kernel_rfl) ?_
      refine OpsT.pures (r := []) [3, 4, 5, 6] [0, 10] (S' := [(0, .string a0), (10, .bool false)]) (by kernel_rfl) ?_
      refine OpsT.done ?_
      have e := someS h1
      subst e
      exact Qn.thenJ fun a ha => ⟨false, rfl, ha.keep [0, 10] (by kernel_rfl), hI⟩
  ·
    rintro a w ⟨x1, rfl, ha, hI⟩
    try dsimp only at h0
    refine CodT.of ?_ ha
    by_cases hb4 : x1 = true
    · rw [if_pos hb4] at h0
      refine CodT.yes' (b := x1) (by kernel_rfl) hb4 ?_
      refine CodT.seq ?_
      refine CodT.regionL [0, 1, 2, 3, 4] (by kernel_rfl) ?_
      refine OpsT.pures (r := [1, 2, 3, 4]) [0] [11] (S' := [(11, .string a0)]) (by kernel_rfl) ?_
      obtain ⟨hg5, h0⟩ := guardS h0
      refine OpsT.cons (Does.yi (Yl.indexStr (d := 12) (T := 9) (k := .i64) (j := 0) (s := a0) (by kernel_rfl) Go.Proofs.Tryd.underlying9 hg5.1 hg5.2) hI ?_)
      refine OpsT.pures (r := []) [2, 3, 4] [2, 3] (S' := [(2, .int .i32 (wi32 (bt a0 0))), (3, .int .i64 1)]) (by kernel_rfl) ?_
      refine OpsT.done ?_
      refine Qn.then ?_
      refine CodT.ret ?_
      refine Qn.ret_then ?_
      have e := someS h0
      subst e
      refine Qn.keep [2, 3] (S' := [(2, .int .i32 (wi32 (bt a0 0))), (3, .int .i64 1)]) (by kernel_rfl) ?_
      exact post_ret (v := .tuple #[.int .i32 (wi32 (bt a0 0)), .int .i64 1]) (fun a ha => RunRes.run (vs := [.int .i32 (wi32 (bt a0 0)), .int .i64 1]) (.tmp (t := 2) (by kernel_rfl) (.tmp (t := 3) (by kernel_rfl) .nil)) ha (by kernel_rfl)) ⟨rfl, hI⟩
    · rw [if_neg hb4] at h0
      refine CodT.no' (b := x1) (by kernel_rfl) (by simpa using hb4) ?_
      refine CodT.regionL [0, 1, 2, 3, 4, 5, 6] (by kernel_rfl) ?_
      refine OpsT.pures (r := [1, 2, 3, 4, 5, 6]) [0] [15] (S' := [(15, .string a0)]) (by kernel_rfl) ?_
      obtain ⟨⟨y7, y8⟩, hc6, h0⟩ := bindS h0
      try dsimp only at h0
      refine OpsT.cons (Does.call (d := some 16) (n := 70) (vs := [.string a0]) (by kernel_rfl) en70 (c70 w0 w _ _ hI hT a0 _ hc6) ?_)
      rintro e w ⟨rfl, hI⟩
      refine ⟨_, rfl, ?_⟩
      refine OpsT.pures (r := []) [2, 3, 4, 5, 6] [2, 3] (S' := [(2, .int .i32 y7), (3, .int .i64 y8)]) (by kernel_rfl) ?_
      refine OpsT.done ?_
      refine Qn.then ?_
      refine CodT.ret ?_
      have e := someS h0
      subst e
      refine Qn.keep [2, 3] (S' := [(2, .int .i32 y7), (3, .int .i64 y8)]) (by kernel_rfl) ?_
      exact post_ret (v := .tuple #[.int .i32 y7, .int .i64 y8]) (fun a ha => RunRes.run (vs := [.int .i32 y7, .int .i64 y8]) (.tmp (t := 2) (by kernel_rfl) (.tmp (t := 3) (by kernel_rfl) .nil)) ha (by kernel_rfl)) ⟨rfl, hI⟩
set_option maxRecDepth 100000 in
set_option maxHeartbeats 4000000 in
/-- cenotaph/name.broken -/
theorem c54 (w0 w : World) (Z : Hp) (A : HP) (hI : Inv w0 Z w A) (hT : Tabs Z) (a0 : ByteArray) (a1 : Int) (a2 : Int) (r : Bool) (h0 : name_broken a0 a1 a2 = some r) :
    Calls prog 54 #[.string a0, .int .i64 a1, .int .i32 a2] w (fun e w' => e = .returned (.bool r) ∧ Inv w0 Z w' A) := by
  have e4 := calls_intro (R := (fun e w' => e = .returned (.bool r) ∧ Inv w0 Z w' A)) (w := w) (args := [.string a0, .int .i64 a1, .int .i32 a2]) (fn := Go.Proofs.Tryd.f54) 20 Go.Proofs.Tryd.func54 (by rfl) Go.Proofs.Tryd.ntmps54 (by kernel_rfl)
  refine e4 ?_
  clear e4
  unfold name_broken at h0
  refine CodT.seq ?_
  refine CodT.regionL [0] (by kernel_rfl) ?_
  refine OpsT.pures (r := []) [0] [0, 1, 2] (S' := [(0, .string a0), (1, .int .i64 a1), (2, .int .i32 a2)]) (by kernel_rfl) ?_
  refine OpsT.done ?_
  refine Qn.then ?_
  refine CodT.seq ?_
  refine CodT.seq ?_
  refine CodT.regionL [0, 1] (by kernel_rfl) ?_
  refine OpsT.pures (r := []) [0, 1] [0, 1, 10] (S' := [(0, .string a0), (1, .int .i64 a1), (10, .bool (a2 != 65533))]) (by kernel_rfl) ?_
  refine OpsT.done ?_
  refine Qn.then ?_
  by_cases hb1 : (a2 != 65533) = true
  · rw [if_pos hb1] at h0
    refine CodT.yes' (b := a2 != 65533) (by kernel_rfl) hb1 ?_
    refine CodT.seq ?_
    refine CodT.regionL [0] (by kernel_rfl) ?_
    refine OpsT.pures (r := []) [0] [6] (S' := [(6, .bool false)]) (by kernel_rfl) ?_
    refine OpsT.done ?_
    refine Qn.then ?_
    refine CodT.ret ?_
    refine Qn.ret_then ?_
    have e := someS h0
    subst e
    refine Qn.keep [6] (S' := [(6, .bool false)]) (by kernel_rfl) ?_
    exact post_ret (v := .bool false) (fun a ha => RunRes.run (vs := [.bool false]) (.tmp (t := 6) (by kernel_rfl) .nil) ha (by kernel_rfl)) ⟨rfl, hI⟩
  · rw [if_neg hb1] at h0
    refine CodT.no' (b := a2 != 65533) (by kernel_rfl) (by simpa using hb1) ?_
    refine CodT.skip ?_
    refine Qn.then ?_
    refine CodT.seq ?_
    refine CodT.regionL [0, 1, 2, 3, 4, 5, 6, 7, 8] (by kernel_rfl) ?_
    refine OpsT.pures (r := [2, 3, 4, 5, 6, 7, 8]) [0, 1] [12, 13] (S' := [(12, .string a0), (13, .int .i64 a1)]) (by kernel_rfl) ?_
    obtain ⟨hg2, h0⟩ := guardS h0
    refine OpsT.cons (Does.yi (Yl.sliceStr10 (d := 14) (T := 9) (s := a0) (lo := a1) (by kernel_rfl) Go.Proofs.Tryd.underlying9 hg2) hI ?_)
    obtain ⟨⟨y4, y5⟩, hc3, h0⟩ := bindS h0
    try dsimp only at h0
    refine OpsT.cons (Does.call (d := some 15) (n := 65) (vs := [.string (sx a0 a1 (a0.size : Int))]) (by kernel_rfl) en65 (c65 w0 w _ _ hI hT (sx a0 a1 (a0.size : Int)) _ hc3) ?_)
    rintro e w ⟨rfl, hI⟩
    refine ⟨_, rfl, ?_⟩
    refine OpsT.pures (r := []) [4, 5, 6, 7, 8] [8] (S' := [(8, .int .i64 y5)]) (by kernel_rfl) ?_
    refine OpsT.done ?_
    refine Qn.then ?_
    refine CodT.seq ?_
    refine CodT.regionL [0, 1, 2] (by kernel_rfl) ?_
    refine OpsT.pures (r := []) [0, 1, 2] [6] (S' := [(6, .bool (decide (y5 < 2)))]) (by kernel_rfl) ?_
    refine OpsT.done ?_
    refine Qn.then ?_
    refine CodT.ret ?_
    have e := someS h0
    subst e
    refine Qn.keep [6] (S' := [(6, .bool (decide (y5 < 2)))]) (by kernel_rfl) ?_
    exact post_ret (v := .bool (decide (y5 < 2))) (fun a ha => RunRes.run (vs := [.bool (decide (y5 < 2))]) (.tmp (t := 6) (by kernel_rfl) .nil) ha (by kernel_rfl)) ⟨rfl, hI⟩
set_option maxRecDepth 100000 in
set_option maxHeartbeats 4000000 in
/-- cenotaph/name.runes -/
theorem c43 (w0 w : World) (Z : Hp) (A : HP) (hI : Inv w0 Z w A) (hT : Tabs Z) (a0 : ByteArray) (r : (List Int)) (h0 : name_runes a0 = some r) :
    Calls prog 43 #[.string a0] w (fun e w' => ∃ (A1 : Option Addr) (c1 : Nat), e = .returned (.slice A1 r.length c1) ∧ Inv w0 Z w' (star (ownS 21 (cI .i32) 1 A1 c1 r) A)) := by
  have e4 := calls_intro (R := (fun e w' => ∃ (A1 : Option Addr) (c1 : Nat), e = .returned (.slice A1 r.length c1) ∧ Inv w0 Z w' (star (ownS 21 (cI .i32) 1 A1 c1 r) A))) (w := w) (args := [.string a0]) (fn := Go.Proofs.Tryd.f43) 26 Go.Proofs.Tryd.func43 (by rfl) Go.Proofs.Tryd.ntmps43 (by kernel_rfl)
  refine e4 ?_
  clear e4
  unfold name_runes at h0
  refine CodT.seq ?_
  refine CodT.regionL [0] (by kernel_rfl) ?_
  refine OpsT.pures (r := []) [0] [0] (S' := [(0, .string a0)]) (by kernel_rfl) ?_
  refine OpsT.done ?_
  refine Qn.then ?_
  refine CodT.seq ?_
  refine CodT.regionL [0] (by kernel_rfl) ?_
  refine OpsT.pures (r := []) [0] [0, 3] (S' := [(0, .string a0), (3, .slice none 0 0)]) (by kernel_rfl) ?_
  refine OpsT.done ?_
  refine Qn.then ?_
  refine CodT.seq ?_
  refine CodT.seq ?_
  refine CodT.regionL [0, 1] (by kernel_rfl) ?_
  refine OpsT.pures (r := [1]) [0] [0, 3, 6] (S' := [(0, .string a0), (3, .slice none 0 0), (6, .string a0)]) (by kernel_rfl) ?_
  refine OpsT.cons (Does.rangeStr (d := 7) (T := 9) (s := a0) (by kernel_rfl) Go.Proofs.Tryd.underlying9 hI ?_)
  intro b1 w hI
  refine OpsT.done ?_
  refine Qn.then ?_
  obtain ⟨r1, h1, h0⟩ := bindS h0
  refine CodT.meet1 (fun a w => ∃ (x2 : (List Int)) (A3 : Option Addr) (cp4 : Nat), x2 = r1 ∧ Fr 26 [(3, .slice A3 x2.length cp4)] a ∧ Inv w0 Z w (star (ownS 21 (cI .i32) 1 A3 cp4 x2) A)) ?_ ?_
  ·
    refine CodT.block ?_
    have hI := ownS_nil (α := Int) hI 21 (cI .i32) 1
    refine (fun a ha => wp_loopN (fun k a w => ∃ (x5 : (List Int)) (x8 : Nat) (A6 : Option Addr) (cp7 : Nat), name_runes.l0 a0 k x5 x8 = some r1 ∧ Fr 26 [(0, .string a0), (3, .slice A6 x5.length cp7), (7, .pointer (some ⟨b1, 0, none⟩))] a ∧ Inv w0 Z w (star (ownS 21 (cI .i32) 1 A6 cp7 x5) (star (pt b1 (.stringIter a0 x8)) A))) ?_ FU a w ⟨([] : List Int), 0, none, 0, h1, ha.keep [0, 3, 7] (by kernel_rfl), hI⟩)
    clear h1 hI
    rintro k a w ⟨x5, x8, A6, cp7, h1, ha, hI⟩
    rcases k with _ | k
    · cases h1
    simp only [name_runes.l0] at h1
    refine CodT.of ?_ ha
    refine CodT.seq ?_
    refine CodT.regionL [0, 1] (by kernel_rfl) ?_
    have hI := hI.mono (pick2 _ _ _)
    by_cases hb9 : x8 < a0.size
    · rw [if_pos hb9] at h1
      refine OpsT.cons (Does.nextStr (d := 8) (b := b1) (pos := x8) (s := a0) (by kernel_rfl) hI hb9 ?_)
      intro w hI
      refine OpsT.pures (r := []) [1] [0, 3, 7, 8, 9] (S' := [(0, .string a0), (3, .slice A6 x5.length cp7), (7, .pointer (some ⟨b1, 0, none⟩)), (8, .tuple #[.bool true, .int .i64 (x8 : Int), .int .i32 (runeAt a0 x8)]), (9, .bool true)]) (by kernel_rfl) ?_
      refine OpsT.done ?_
      refine Qn.then ?_
      refine CodT.seq ?_
      refine CodT.yes (by kernel_rfl) ?_
      refine CodT.skip ?_
      refine Qn.then ?_
      refine CodT.block ?_
      refine CodT.seq ?_
      refine CodT.regionL [0, 1, 2, 3] (by kernel_rfl) ?_
      refine OpsT.pures (r := []) [0, 1, 2, 3] [0, 3, 4, 5, 7] (S' := [(0, .string a0), (3, .slice A6 x5.length cp7), (4, .int .i64 (x8 : Int)), (5, .int .i32 (runeAt a0 x8)), (7, .pointer (some ⟨b1, 0, none⟩))]) (by kernel_rfl) ?_
      refine OpsT.done ?_
      refine Qn.then ?_
      obtain ⟨r2, h2, h1⟩ := bindS h1
      refine CodT.meet (fun a w => ∃ (x10 : Int), x10 = r2 ∧ Fr 26 [(0, .string a0), (3, .slice A6 x5.length cp7), (5, .int .i32 x10), (7, .pointer (some ⟨b1, 0, none⟩))] a ∧ Inv w0 Z w (star (pt b1 (.stringIter a0 (x8 + runeW a0 x8))) (star (ownS 21 (cI .i32) 1 A6 cp7 x5) A))) ?_ ?_
      ·
        refine CodT.seq ?_
        refine CodT.regionL [0, 1, 2, 3] (by kernel_rfl) ?_
        refine OpsT.pures (r := [3]) [0, 1, 2] [0, 3, 4, 5, 7, 12, 13, 14] (S' := [(0, .string a0), (3, .slice A6 x5.length cp7), (4, .int .i64 (x8 : Int)), (5, .int .i32 (runeAt a0 x8)), (7, .pointer (some ⟨b1, 0, none⟩)), (12, .string a0), (13, .int .i64 (x8 : Int)), (14, .int .i32 (runeAt a0 x8))]) (by kernel_rfl) ?_
        obtain ⟨y12, hc11, h2⟩ := bindS h2
        try dsimp only at h2
        refine OpsT.cons (Does.call (d := some 15) (n := 54) (vs := [.string a0, .int .i64 (x8 : Int), .int .i32 (runeAt a0 x8)]) (by kernel_rfl) en54 (c54 w0 w _ _ hI hT a0 (x8 : Int) (runeAt a0 x8) _ hc11) ?_)
        rintro e w ⟨rfl, hI⟩
        refine ⟨_, rfl, ?_⟩
        refine OpsT.done ?_
        refine Qn.then ?_
        by_cases hb13 : y12 = true
        · rw [if_pos hb13] at h2
          refine CodT.yes' (b := y12) (by kernel_rfl) hb13 ?_
          refine CodT.regionL [0, 1, 2, 3, 4, 5] (by kernel_rfl) ?_
          refine OpsT.pures (r := [2, 3, 4, 5]) [0, 1] [0, 3, 7, 16, 17] (S' := [(0, .string a0), (3, .slice A6 x5.length cp7), (7, .pointer (some ⟨b1, 0, none⟩)), (16, .string a0), (17, .int .i64 (x8 : Int))]) (by kernel_rfl) ?_
          obtain ⟨hg14, h2⟩ := guardS h2
          refine OpsT.cons (Does.yi (Yl.indexStr (d := 18) (T := 9) (k := .i64) (j := (x8 : Int)) (s := a0) (by kernel_rfl) Go.Proofs.Tryd.underlying9 hg14.1 hg14.2) hI ?_)
          refine OpsT.pures (r := []) [3, 4, 5] [0, 3, 5, 7] (S' := [(0, .string a0), (3, .slice A6 x5.length cp7), (5, .int .i32 (wi32 (1114112 + (wi32 (bt a0 (x8 : Int)))))), (7, .pointer (some ⟨b1, 0, none⟩))]) (by kernel_rfl) ?_
          refine OpsT.done ?_
          have e := someS h2
          subst e
          exact Qn.thenJ fun a ha => ⟨wi32 (1114112 + (wi32 (bt a0 (x8 : Int)))), rfl, ha.keep [0, 3, 5, 7] (by kernel_rfl), hI⟩
        · rw [if_neg hb13] at h2
          refine CodT.no' (b := y12) (by kernel_rfl) (by simpa using hb13) ?_
          refine CodT.skip ?_
          have e := someS h2
          subst e
          exact Qn.thenJ fun a ha => ⟨runeAt a0 x8, rfl, ha.keep [0, 3, 5, 7] (by kernel_rfl), hI⟩
      ·
        rintro a w ⟨x10, rfl, ha, hI⟩
        try dsimp only at h1
        refine CodT.of ?_ ha
        refine CodT.regionL [0, 1, 2, 3, 4] (by kernel_rfl) ?_
        refine OpsT.pures (r := [2, 3, 4]) [0, 1] [0, 7, 21, 22] (S' := [(0, .string a0), (7, .pointer (some ⟨b1, 0, none⟩)), (21, .slice A6 x5.length cp7), (22, .int .i32 x10)]) (by kernel_rfl) ?_
        refine OpsT.cons (Does.buildSlice (en := (cI .i32)) (d := 23) (n := 1) (T := 81) (ps := [(0, .int .i32 x10)]) ([x10] : List Int) (by kernel_rfl) Go.Proofs.Tryd.underlying81 ty21 (by kernel_rfl) (by kernel_rfl) (by kernel_rfl) (by kernel_rfl) (len_all (fun _ => rfl)) hI ?_)
        intro b15 w hI
        obtain ⟨hg16, h1⟩ := guardS h1
        have hI := hI.mono (pick3 _ _ _ _)
        refine OpsT.cons (Does.append (d := 24) (t := 81) (tx := 81) (ty := 81) (ys := x5) (zs := ([x10] : List Int)) (x := .slice (some ⟨b15, 0, none⟩) (([x10] : List Int).length) 1) (by kernel_rfl) Go.Proofs.Tryd.underlying81 ty21 (by kernel_rfl) hI (src_own Go.Proofs.Tryd.underlying81 (hI.mono (pick2 _ _ _)) (one_flat _ (fun _ => rfl))) (ownS_facts (hI.mono (pick2 _ _ _))).2.2 (by unfold LIM at hg16; omega) hg16 ?_)
        intro A17 cp18 w hI
        refine OpsT.pures (r := []) [4] [0, 3, 7] (S' := [(0, .string a0), (3, .slice A17 ((x5 ++ ([x10] : List Int)).length) cp18), (7, .pointer (some ⟨b1, 0, none⟩))]) (by kernel_rfl) ?_
        refine OpsT.done ?_
        refine Qn.block_normal ?_
        have hI := hI.mono (pick2 _ _ _)
        have hI := hI.drop
        exact Qn.thenJ fun a ha => ⟨k, Nat.lt_succ_self k, x5 ++ ([x10] : List Int), x8 + runeW a0 x8, A17, cp18, h1, ha.keep [0, 3, 7] (by kernel_rfl), hI⟩
    · rw [if_neg hb9] at h1
      refine OpsT.cons (Does.nextEnd (d := 8) (b := b1) (pos := x8) (s := a0) (by kernel_rfl) hI hb9 ?_)
      refine OpsT.pures (r := []) [1] [0, 3, 7, 8, 9] (S' := [(0, .string a0), (3, .slice A6 x5.length cp7), (7, .pointer (some ⟨b1, 0, none⟩)), (8, .tuple #[.bool false]), (9, .bool false)]) (by kernel_rfl) ?_
      refine OpsT.done ?_
      refine Qn.then ?_
      refine CodT.seq ?_
      refine CodT.no (by kernel_rfl) ?_
      refine CodT.exit ?_
      refine Qn.exit_then ?_
      refine Qn.exit_then ?_
      refine Qn.block ?_
      have hI := hI.drop
      have e := someS h1
      subst e
      exact Qn.thenJ fun a ha => ⟨x5, A6, cp7, rfl, ha.keep [3] (by kernel_rfl), hI⟩
  ·
    rintro a w ⟨x2, A3, cp4, rfl, ha, hI⟩
    try dsimp only at h0
    refine Qn.of ?_ ha
    refine Qn.then ?_
    refine CodT.seq ?_
    refine CodT.regionL [0, 1] (by kernel_rfl) ?_
    refine OpsT.pures (r := []) [0, 1] [2] (S' := [(2, .slice A3 x2.length cp4)]) (by kernel_rfl) ?_
    refine OpsT.done ?_
    refine Qn.then ?_
    refine CodT.ret ?_
    have e := someS h0
    subst e
    refine Qn.keep [2] (S' := [(2, .slice A3 x2.length cp4)]) (by kernel_rfl) ?_
    exact post_ret (v := .slice A3 x2.length cp4) (fun a ha => RunRes.run (vs := [.slice A3 x2.length cp4]) (.tmp (t := 2) (by kernel_rfl) .nil) ha (by kernel_rfl)) ⟨A3, cp4, rfl, hI⟩
set_option maxRecDepth 100000 in
set_option maxHeartbeats 4000000 in
/-- cenotaph/name.Less -/
theorem c31 (w0 w : World) (Z : Hp) (A : HP) (hI : Inv w0 Z w A) (hT : Tabs Z) (a0 : ByteArray) (a1 : ByteArray) (r : Bool) (h0 : name_Less a0 a1 = some r) :
    Calls prog 31 #[.string a0, .string a1] w (fun e w' => e = .returned (.bool r) ∧ Inv w0 Z w' A) := by
  have e4 := calls_intro (R := (fun e w' => e = .returned (.bool r) ∧ Inv w0 Z w' A)) (w := w) (args := [.string a0, .string a1]) (fn := Go.Proofs.Tryd.f31) 42 Go.Proofs.Tryd.func31 (by rfl) Go.Proofs.Tryd.ntmps31 (by kernel_rfl)
  refine e4 ?_
  clear e4
  unfold name_Less at h0
  refine CodT.seq ?_
  refine CodT.regionL [0] (by kernel_rfl) ?_
  refine OpsT.pures (r := []) [0] [0, 1] (S' := [(0, .string a0), (1, .string a1)]) (by kernel_rfl) ?_
  refine OpsT.done ?_
  refine Qn.then ?_
  refine CodT.seq ?_
  refine CodT.regionL [0, 1, 2, 3, 4, 5] (by kernel_rfl) ?_
  refine OpsT.pures (r := [1, 2, 3, 4, 5]) [0] [1, 9] (S' := [(1, .string a1), (9, .string a0)]) (by kernel_rfl) ?_
  obtain ⟨y2, hc1, h0⟩ := bindS h0
  try dsimp only at h0
  refine OpsT.cons (Does.call (d := some 10) (n := 43) (vs := [.string a0]) (by kernel_rfl) en43 (c43 w0 w _ _ hI hT a0 _ hc1) ?_)
  rintro e w ⟨A3, cp4, rfl, hI⟩
  refine ⟨_, rfl, ?_⟩
  refine OpsT.pures (r := [3, 4, 5]) [2] [10, 11] (S' := [(10, .slice A3 y2.length cp4), (11, .string a1)]) (by kernel_rfl) ?_
  obtain ⟨y6, hc5, h0⟩ := bindS h0
  try dsimp only at h0
  refine OpsT.cons (Does.call (d := some 12) (n := 43) (vs := [.string a1]) (by kernel_rfl) en43 (c43 w0 w _ _ hI hT a1 _ hc5) ?_)
  rintro e w ⟨A7, cp8, rfl, hI⟩
  refine ⟨_, rfl, ?_⟩
  refine OpsT.pures (r := []) [4, 5] [5, 6] (S' := [(5, .slice A3 y2.length cp4), (6, .slice A7 y6.length cp8)]) (by kernel_rfl) ?_
  refine OpsT.done ?_
  refine Qn.then ?_
  refine CodT.seq ?_
  refine CodT.seq ?_
  refine CodT.regionL [0, 1, 2] (by kernel_rfl) ?_
  refine OpsT.pures (r := []) [0, 1, 2] [5, 6, 13, 14, 15] (S' := [(5, .slice A3 y2.length cp4), (6, .slice A7 y6.length cp8), (13, .slice A3 y2.length cp4), (14, .int .i64 (y2.length : Int)), (15, .int .i64 0)]) (by kernel_rfl) ?_
  refine OpsT.done ?_
  refine Qn.then ?_
  obtain ⟨r1, h1, h0⟩ := bindS h0
  refine CodT.meet1 (fun a w => .inr () = r1 ∧ Fr 42 [(5, .slice A3 y2.length cp4), (6, .slice A7 y6.length cp8)] a ∧ Inv w0 Z w (star (ownS 21 (cI .i32) 1 A7 cp8 y6) (star (ownS 21 (cI .i32) 1 A3 cp4 y2) A))) ?_ ?_
  ·
    refine CodT.block ?_
    refine (fun a ha => wp_loopN (fun k a w => ∃ (x9 : Int), name_Less.l0 y2 y6 k x9 = some r1 ∧ Fr 42 [(5, .slice A3 y2.length cp4), (6, .slice A7 y6.length cp8), (13, .slice A3 y2.length cp4), (14, .int .i64 (y2.length : Int)), (15, .int .i64 x9)] a ∧ Inv w0 Z w (star (ownS 21 (cI .i32) 1 A7 cp8 y6) (star (ownS 21 (cI .i32) 1 A3 cp4 y2) A))) ?_ FU a w ⟨0, h1, ha.keep [5, 6, 13, 14, 15] (by kernel_rfl), hI⟩)
    clear h1 hI
    rintro k a w ⟨x9, h1, ha, hI⟩
    rcases k with _ | k
    · cases h1
    simp only [name_Less.l0] at h1
    refine CodT.of ?_ ha
    refine CodT.seq ?_
    refine CodT.regionL [0] (by kernel_rfl) ?_
    refine OpsT.pures (r := []) [0] [5, 6, 13, 14, 15, 16] (S' := [(5, .slice A3 y2.length cp4), (6, .slice A7 y6.length cp8), (13, .slice A3 y2.length cp4), (14, .int .i64 (y2.length : Int)), (15, .int .i64 x9), (16, .bool (decide (x9 < (y2.length : Int))))]) (by kernel_rfl) ?_
    refine OpsT.done ?_
    refine Qn.then ?_
    refine CodT.seq ?_
    by_cases hb10 : (decide (x9 < (y2.length : Int))) = true
    · rw [if_pos hb10] at h1
      refine CodT.yes' (b := decide (x9 < (y2.length : Int))) (by kernel_rfl) hb10 ?_
      refine CodT.skip ?_
      refine Qn.then ?_
      refine CodT.seq ?_
      refine CodT.block ?_
      refine CodT.seq ?_
      refine CodT.regionL [0, 1, 2, 3, 4] (by kernel_rfl) ?_
      refine OpsT.pures (r := [1, 2, 3, 4]) [0] [5, 6, 13, 14, 15, 17] (S' := [(5, .slice A3 y2.length cp4), (6, .slice A7 y6.length cp8), (13, .slice A3 y2.length cp4), (14, .int .i64 (y2.length : Int)), (15, .int .i64 x9), (17, .int .i64 x9)]) (by kernel_rfl) ?_
      obtain ⟨hg11, h1⟩ := guardS h1
      obtain ⟨g12, hA13, hr14, hl15⟩ := ownS_get (hI.mono (pick2 _ _ _)) hg11.1 hg11.2
      refine OpsT.cons (Does.yi (Yl.indexSlice (d := 18) (T := 81) (cc := cp4) (k := .i64) (j := x9) (g := g12) (o := 0) (by kernel_rfl) Go.Proofs.Tryd.underlying81 ty21 hA13 hg11.1 hg11.2) hI ?_)
      refine OpsT.cons (Does.yi (Yl.load (d := 19) (T := 21) (v := .int .i32 (gt y2 x9)) (by kernel_rfl) (ldR ty21 (v := .int .i32 (gt y2 x9)) 0 (fun w hC => hr14 w0 w _ (hC.mono (pick2 _ _ _))) (by kernel_rfl))) hI ?_)
      refine OpsT.pures (r := []) [3, 4] [5, 6, 7, 8, 13, 14, 15] (S' := [(5, .slice A3 y2.length cp4), (6, .slice A7 y6.length cp8), (7, .int .i64 x9), (8, .int .i32 (gt y2 x9)), (13, .slice A3 y2.length cp4), (14, .int .i64 (y2.length : Int)), (15, .int .i64 x9)]) (by kernel_rfl) ?_
      refine OpsT.done ?_
      refine Qn.then ?_
      refine CodT.seq ?_
      refine CodT.seq ?_
      refine CodT.regionL [0, 1, 2, 3] (by kernel_rfl) ?_
      refine OpsT.pures (r := []) [0, 1, 2, 3] [5, 6, 7, 8, 13, 14, 15, 23] (S' := [(5, .slice A3 y2.length cp4), (6, .slice A7 y6.length cp8), (7, .int .i64 x9), (8, .int .i32 (gt y2 x9)), (13, .slice A3 y2.length cp4), (14, .int .i64 (y2.length : Int)), (15, .int .i64 x9), (23, .bool (decide (x9 ≥ (y6.length : Int))))]) (by kernel_rfl) ?_
      refine OpsT.done ?_
      refine Qn.then ?_
      by_cases hb16 : (decide (x9 ≥ (y6.length : Int))) = true
      · rw [if_pos hb16] at h1
        refine CodT.yes' (b := decide (x9 ≥ (y6.length : Int))) (by kernel_rfl) hb16 ?_
        refine CodT.seq ?_
        refine CodT.regionL [0] (by kernel_rfl) ?_
        refine OpsT.pures (r := []) [0] [4] (S' := [(4, .bool false)]) (by kernel_rfl) ?_
        refine OpsT.done ?_
        refine Qn.then ?_
        refine CodT.ret ?_
        refine Qn.ret_then ?_
        refine Qn.block_ret ?_
        refine Qn.ret_then ?_
        refine Qn.ret_then ?_
        refine Qn.block_ret ?_
        refine Qn.ret_then ?_
        refine Qn.ret_then ?_
        have hI := hI.drop
        have hI := hI.drop
        have e := someS h1
        subst e
        try dsimp only at h0
        have e := someS h0
        subst e
        refine Qn.keep [4] (S' := [(4, .bool false)]) (by kernel_rfl) ?_
        exact post_ret (v := .bool false) (fun a ha => RunRes.run (vs := [.bool false]) (.tmp (t := 4) (by kernel_rfl) .nil) ha (by kernel_rfl)) ⟨rfl, hI⟩
      · rw [if_neg hb16] at h1
        refine CodT.no' (b := decide (x9 ≥ (y6.length : Int))) (by kernel_rfl) (by simpa using hb16) ?_
        refine CodT.skip ?_
        refine Qn.then ?_
        refine CodT.seq ?_
        refine CodT.regionL [0, 1, 2, 3, 4, 5] (by kernel_rfl) ?_
        refine OpsT.pures (r := [3, 4, 5]) [0, 1, 2] [5, 6, 7, 8, 13, 14, 15, 24, 25, 26] (S' := [(5, .slice A3 y2.length cp4), (6, .slice A7 y6.length cp8), (7, .int .i64 x9), (8, .int .i32 (gt y2 x9)), (13, .slice A3 y2.length cp4), (14, .int .i64 (y2.length : Int)), (15, .int .i64 x9), (24, .int .i32 (gt y2 x9)), (25, .slice A7 y6.length cp8), (26, .int .i64 x9)]) (by kernel_rfl) ?_
        obtain ⟨hg17, h1⟩ := guardS h1
        obtain ⟨g18, hA19, hr20, hl21⟩ := ownS_get hI hg17.1 hg17.2
        refine OpsT.cons (Does.yi (Yl.indexSlice (d := 27) (T := 81) (cc := cp8) (k := .i64) (j := x9) (g := g18) (o := 0) (by kernel_rfl) Go.Proofs.Tryd.underlying81 ty21 hA19 hg17.1 hg17.2) hI ?_)
        refine OpsT.cons (Does.yi (Yl.load (d := 28) (T := 21) (v := .int .i32 (gt y6 x9)) (by kernel_rfl) (ldR ty21 (v := .int .i32 (gt y6 x9)) 0 (fun w hC => hr20 w0 w _ hC) (by kernel_rfl))) hI ?_)
        refine OpsT.pures (r := []) [5] [5, 6, 7, 8, 13, 14, 15, 29] (S' := [(5, .slice A3 y2.length cp4), (6, .slice A7 y6.length cp8), (7, .int .i64 x9), (8, .int .i32 (gt y2 x9)), (13, .slice A3 y2.length cp4), (14, .int .i64 (y2.length : Int)), (15, .int .i64 x9), (29, .bool ((gt y2 x9) != (gt y6 x9)))]) (by kernel_rfl) ?_
        refine OpsT.done ?_
        refine Qn.then ?_
        by_cases hb22 : ((gt y2 x9) != (gt y6 x9)) = true
        · rw [if_pos hb22] at h1
          refine CodT.yes' (b := (gt y2 x9) != (gt y6 x9)) (by kernel_rfl) hb22 ?_
          refine CodT.seq ?_
          refine CodT.regionL [0, 1, 2, 3, 4, 5, 6] (by kernel_rfl) ?_
          refine OpsT.pures (r := [3, 4, 5, 6]) [0, 1, 2] [30, 31, 32] (S' := [(30, .int .i32 (gt y2 x9)), (31, .slice A7 y6.length cp8), (32, .int .i64 x9)]) (by kernel_rfl) ?_
          obtain ⟨hg23, h1⟩ := guardS h1
          obtain ⟨g24, hA25, hr26, hl27⟩ := ownS_get hI hg23.1 hg23.2
          refine OpsT.cons (Does.yi (Yl.indexSlice (d := 33) (T := 81) (cc := cp8) (k := .i64) (j := x9) (g := g24) (o := 0) (by kernel_rfl) Go.Proofs.Tryd.underlying81 ty21 hA25 hg23.1 hg23.2) hI ?_)
          refine OpsT.cons (Does.yi (Yl.load (d := 34) (T := 21) (v := .int .i32 (gt y6 x9)) (by kernel_rfl) (ldR ty21 (v := .int .i32 (gt y6 x9)) 0 (fun w hC => hr26 w0 w _ hC) (by kernel_rfl))) hI ?_)
          refine OpsT.pures (r := []) [5, 6] [4] (S' := [(4, .bool (decide ((gt y2 x9) < (gt y6 x9))))]) (by kernel_rfl) ?_
          refine OpsT.done ?_
          refine Qn.then ?_
          refine CodT.ret ?_
          refine Qn.block_ret ?_
          refine Qn.ret_then ?_
          refine Qn.ret_then ?_
          refine Qn.block_ret ?_
          refine Qn.ret_then ?_
          refine Qn.ret_then ?_
          have hI := hI.drop
          have hI := hI.drop
          have e := someS h1
          subst e
          try dsimp only at h0
          have e := someS h0
          subst e
          refine Qn.keep [4] (S' := [(4, .bool (decide ((gt y2 x9) < (gt y6 x9))))]) (by kernel_rfl) ?_
          exact post_ret (v := .bool (decide ((gt y2 x9) < (gt y6 x9)))) (fun a ha => RunRes.run (vs := [.bool (decide ((gt y2 x9) < (gt y6 x9)))]) (.tmp (t := 4) (by kernel_rfl) .nil) ha (by kernel_rfl)) ⟨rfl, hI⟩
        · rw [if_neg hb22] at h1
          refine CodT.no' (b := (gt y2 x9) != (gt y6 x9)) (by kernel_rfl) (by simpa using hb22) ?_
          refine CodT.skip ?_
          refine Qn.block_normal ?_
          refine Qn.then ?_
          refine CodT.regionL [0, 1] (by kernel_rfl) ?_
          refine OpsT.pures (r := []) [0, 1] [5, 6, 13, 14, 15] (S' := [(5, .slice A3 y2.length cp4), (6, .slice A7 y6.length cp8), (13, .slice A3 y2.length cp4), (14, .int .i64 (y2.length : Int)), (15, .int .i64 (wi64 (x9 + 1)))]) (by kernel_rfl) ?_
          refine OpsT.done ?_
          exact Qn.thenJ fun a ha => ⟨k, Nat.lt_succ_self k, wi64 (x9 + 1), h1, ha.keep [5, 6, 13, 14, 15] (by kernel_rfl), hI⟩
    · rw [if_neg hb10] at h1
      refine CodT.no' (b := decide (x9 < (y2.length : Int))) (by kernel_rfl) (by simpa using hb10) ?_
      refine CodT.exit ?_
      refine Qn.exit_then ?_
      refine Qn.exit_then ?_
      refine Qn.block ?_
      have e := someS h1
      subst e
      exact Qn.thenJ fun a ha => ⟨rfl, ha.keep [5, 6] (by kernel_rfl), hI⟩
  ·
    rintro a w ⟨rfl, ha, hI⟩
    try dsimp only at h0
    refine Qn.of ?_ ha
    refine Qn.then ?_
    refine CodT.seq ?_
    refine CodT.regionL [0, 1, 2, 3, 4, 5] (by kernel_rfl) ?_
    refine OpsT.pures (r := []) [0, 1, 2, 3, 4, 5] [4] (S' := [(4, .bool (decide ((y2.length : Int) < (y6.length : Int))))]) (by kernel_rfl) ?_
    refine OpsT.done ?_
    refine Qn.then ?_
    refine CodT.ret ?_
    have hI := hI.drop
    have hI := hI.drop
    have e := someS h0
    subst e
    refine Qn.keep [4] (S' := [(4, .bool (decide ((y2.length : Int) < (y6.length : Int))))]) (by kernel_rfl) ?_
    exact post_ret (v := .bool (decide ((y2.length : Int) < (y6.length : Int)))) (fun a ha => RunRes.run (vs := [.bool (decide ((y2.length : Int) < (y6.length : Int)))]) (.tmp (t := 4) (by kernel_rfl) .nil) ha (by kernel_rfl)) ⟨rfl, hI⟩
set_option maxRecDepth 100000 in
set_option maxHeartbeats 4000000 in
/-- (cenotaph/rule.label).behind -/
theorem c57 (w0 w : World) (Z : Hp) (A : HP) (hI : Inv w0 Z w A) (hT : Tabs Z) (a0 : ByteArray) (a1 : ByteArray) (r : Bool) (h0 : rule_label_behind a0 a1 = some r) :
    Calls prog 57 #[.string a0, .string a1] w (fun e w' => e = .returned (.bool r) ∧ Inv w0 Z w' A) := by
  have e4 := calls_intro (R := (fun e w' => e = .returned (.bool r) ∧ Inv w0 Z w' A)) (w := w) (args := [.string a0, .string a1]) (fn := Go.Proofs.Tryd.f57) 9 Go.Proofs.Tryd.func57 (by rfl) Go.Proofs.Tryd.ntmps57 (by kernel_rfl)
  refine e4 ?_
  clear e4
  unfold rule_label_behind at h0
  refine CodT.seq ?_
  refine CodT.regionL [0] (by kernel_rfl) ?_
  refine OpsT.pures (r := []) [0] [0, 1] (S' := [(0, .string a0), (1, .string a1)]) (by kernel_rfl) ?_
  refine OpsT.done ?_
  refine Qn.then ?_
  refine CodT.seq ?_
  refine CodT.regionL [0, 1, 2, 3, 4] (by kernel_rfl) ?_
  refine OpsT.pures (r := [2, 3, 4]) [0, 1] [5, 6] (S' := [(5, .string a1), (6, .string a0)]) (by kernel_rfl) ?_
  obtain ⟨y2, hc1, h0⟩ := bindS h0
  try dsimp only at h0
  refine OpsT.cons (Does.call (d := some 7) (n := 31) (vs := [.string a1, .string a0]) (by kernel_rfl) en31 (c31 w0 w _ _ hI hT a1 a0 _ hc1) ?_)
  rintro e w ⟨rfl, hI⟩
  refine ⟨_, rfl, ?_⟩
  refine OpsT.pures (r := []) [3, 4] [4] (S' := [(4, .bool (!y2))]) (by kernel_rfl) ?_
  refine OpsT.done ?_
  refine Qn.then ?_
  refine CodT.ret ?_
  have e := someS h0
  subst e
  refine Qn.keep [4] (S' := [(4, .bool (!y2))]) (by kernel_rfl) ?_
  exact post_ret (v := .bool (!y2)) (fun a ha => RunRes.run (vs := [.bool (!y2)]) (.tmp (t := 4) (by kernel_rfl) .nil) ha (by kernel_rfl)) ⟨rfl, hI⟩
set_option maxRecDepth 100000 in
set_option maxHeartbeats 4000000 in
/-- slices.IndexFunc[[]string,string] -/
theorem c56 (w0 w : World) (Z : Hp) (A : HP) (hI : Inv w0 Z w A) (hT : Tabs Z) (A_a0 : Option Addr) (c_a0 : Nat) (a0 : (List ByteArray)) (hr_a0 : RdS Z cS 1 A_a0 c_a0 a0) (a1_f0 : ByteArray) (r : Int) (h0 : slices_IndexFunc_string__rule_label_behind a0 a1_f0 = some r) :
    Calls prog 56 #[.slice A_a0 a0.length c_a0, .func (.func 57) #[.string a1_f0] #[]] w (fun e w' => e = .returned (.int .i64 r) ∧ Inv w0 Z w' A) := by
  have e4 := calls_intro (R := (fun e w' => e = .returned (.int .i64 r) ∧ Inv w0 Z w' A)) (w := w) (args := [.slice A_a0 a0.length c_a0, .func (.func 57) #[.string a1_f0] #[]]) (fn := Go.Proofs.Tryd.f56) 19 Go.Proofs.Tryd.func56 (by rfl) Go.Proofs.Tryd.ntmps56 (by kernel_rfl)
  refine e4 ?_
  clear e4
  unfold slices_IndexFunc_string__rule_label_behind at h0
  refine CodT.seq ?_
  refine CodT.regionL [0] (by kernel_rfl) ?_
  refine OpsT.pures (r := []) [0] [0, 1] (S' := [(0, .slice A_a0 a0.length c_a0), (1, .func (.func 57) #[.string a1_f0] #[])]) (by kernel_rfl) ?_
  refine OpsT.done ?_
  refine Qn.then ?_
  refine CodT.seq ?_
  refine CodT.seq ?_
  refine CodT.regionL [0, 1, 2] (by kernel_rfl) ?_
  refine OpsT.pures (r := []) [0, 1, 2] [0, 1, 7, 8] (S' := [(0, .slice A_a0 a0.length c_a0), (1, .func (.func 57) #[.string a1_f0] #[]), (7, .int .i64 (a0.length : Int)), (8, .int .i64 0)]) (by kernel_rfl) ?_
  refine OpsT.done ?_
  refine Qn.then ?_
  obtain ⟨r1, h1, h0⟩ := bindS h0
  refine CodT.meet1 (fun a w => .inr () = r1 ∧ Fr 19 [] a ∧ Inv w0 Z w A) ?_ ?_
  ·
    refine CodT.block ?_
    refine (fun a ha => wp_loopN (fun k a w => ∃ (x1 : Int), slices_IndexFunc_string__rule_label_behind.l0 a0 a1_f0 k x1 = some r1 ∧ Fr 19 [(0, .slice A_a0 a0.length c_a0), (1, .func (.func 57) #[.string a1_f0] #[]), (7, .int .i64 (a0.length : Int)), (8, .int .i64 x1)] a ∧ Inv w0 Z w A) ?_ FU a w ⟨0, h1, ha.keep [0, 1, 7, 8] (by kernel_rfl), hI⟩)
    clear h1 hI
    rintro k a w ⟨x1, h1, ha, hI⟩
    rcases k with _ | k
    · cases h1
    simp only [slices_IndexFunc_string__rule_label_behind.l0] at h1
    refine CodT.of ?_ ha
    refine CodT.seq ?_
    refine CodT.regionL [0] (by kernel_rfl) ?_
    refine OpsT.pures (r := []) [0] [0, 1, 7, 8, 9] (S' := [(0, .slice A_a0 a0.length c_a0), (1, .func (.func 57) #[.string a1_f0] #[]), (7, .int .i64 (a0.length : Int)), (8, .int .i64 x1), (9, .bool (decide (x1 < (a0.length : Int))))]) (by kernel_rfl) ?_
    refine OpsT.done ?_
    refine Qn.then ?_
    refine CodT.seq ?_
    by_cases hb2 : (decide (x1 < (a0.length : Int))) = true
    · rw [if_pos hb2] at h1
      refine CodT.yes' (b := decide (x1 < (a0.length : Int))) (by kernel_rfl) hb2 ?_
      refine CodT.skip ?_
      refine Qn.then ?_
      refine CodT.seq ?_
      refine CodT.block ?_
      refine CodT.seq ?_
      refine CodT.regionL [0, 1] (by kernel_rfl) ?_
      refine OpsT.pures (r := []) [0, 1] [0, 1, 5, 7, 8] (S' := [(0, .slice A_a0 a0.length c_a0), (1, .func (.func 57) #[.string a1_f0] #[]), (5, .int .i64 x1), (7, .int .i64 (a0.length : Int)), (8, .int .i64 x1)]) (by kernel_rfl) ?_
      refine OpsT.done ?_
      refine Qn.then ?_
      refine CodT.seq ?_
      refine CodT.regionL [0, 1, 2, 3, 4, 5] (by kernel_rfl) ?_
      refine OpsT.pures (r := [3, 4, 5]) [0, 1, 2] [0, 1, 5, 7, 8, 11, 12, 13] (S' := [(0, .slice A_a0 a0.length c_a0), (1, .func (.func 57) #[.string a1_f0] #[]), (5, .int .i64 x1), (7, .int .i64 (a0.length : Int)), (8, .int .i64 x1), (11, .func (.func 57) #[.string a1_f0] #[]), (12, .slice A_a0 a0.length c_a0), (13, .int .i64 x1)]) (by kernel_rfl) ?_
      obtain ⟨hg3, h1⟩ := guardS h1
      obtain ⟨g4, o8, hA5, hr6, hl7⟩ := RdS.get hr_a0 hg3.1 hg3.2
      refine OpsT.cons (Does.yi (Yl.indexSlice (d := 14) (T := 22) (cc := c_a0) (k := .i64) (j := x1) (g := g4) (o := o8) (by kernel_rfl) Go.Proofs.Tryd.underlying22 ty9 hA5 hg3.1 hg3.2) hI ?_)
      refine OpsT.cons (Does.yi (Yl.load (d := 15) (T := 9) (v := .string (gt a0 x1)) (by kernel_rfl) (ldR ty9 (v := .string (gt a0 x1)) 0 (fun w hC => hr6 w0 w _ hC) (by kernel_rfl))) hI ?_)
      obtain ⟨y10, hc9, h1⟩ := bindS h1
      try dsimp only at h1
      refine OpsT.cons (Does.call (d := some 16) (n := 57) (vs := [.string a1_f0, .string (gt a0 x1)]) (by kernel_rfl) en57 (c57 w0 w _ _ hI hT a1_f0 (gt a0 x1) _ hc9) ?_)
      rintro e w ⟨rfl, hI⟩
      refine ⟨_, rfl, ?_⟩
      refine OpsT.done ?_
      refine Qn.then ?_
      by_cases hb11 : y10 = true
      · rw [if_pos hb11] at h1
        refine CodT.yes' (b := y10) (by kernel_rfl) hb11 ?_
        refine CodT.seq ?_
        refine CodT.regionL [0, 1] (by kernel_rfl) ?_
        refine OpsT.pures (r := []) [0, 1] [4] (S' := [(4, .int .i64 x1)]) (by kernel_rfl) ?_
        refine OpsT.done ?_
        refine Qn.then ?_
        refine CodT.ret ?_
        refine Qn.block_ret ?_
        refine Qn.ret_then ?_
        refine Qn.ret_then ?_
        refine Qn.block_ret ?_
        refine Qn.ret_then ?_
        refine Qn.ret_then ?_
        have e := someS h1
        subst e
        try dsimp only at h0
        have e := someS h0
        subst e
        refine Qn.keep [4] (S' := [(4, .int .i64 x1)]) (by kernel_rfl) ?_
        exact post_ret (v := .int .i64 x1) (fun a ha => RunRes.run (vs := [.int .i64 x1]) (.tmp (t := 4) (by kernel_rfl) .nil) ha (by kernel_rfl)) ⟨rfl, hI⟩
      · rw [if_neg hb11] at h1
        refine CodT.no' (b := y10) (by kernel_rfl) (by simpa using hb11) ?_
        refine CodT.skip ?_
        refine Qn.block_normal ?_
        refine Qn.then ?_
        refine CodT.regionL [0, 1] (by kernel_rfl) ?_
        refine OpsT.pures (r := []) [0, 1] [0, 1, 7, 8] (S' := [(0, .slice A_a0 a0.length c_a0), (1, .func (.func 57) #[.string a1_f0] #[]), (7, .int .i64 (a0.length : Int)), (8, .int .i64 (wi64 (x1 + 1)))]) (by kernel_rfl) ?_
        refine OpsT.done ?_
        exact Qn.thenJ fun a ha => ⟨k, Nat.lt_succ_self k, wi64 (x1 + 1), h1, ha.keep [0, 1, 7, 8] (by kernel_rfl), hI⟩
    · rw [if_neg hb2] at h1
      refine CodT.no' (b := decide (x1 < (a0.length : Int))) (by kernel_rfl) (by simpa using hb2) ?_
      refine CodT.exit ?_
      refine Qn.exit_then ?_
      refine Qn.exit_then ?_
      refine Qn.block ?_
      have e := someS h1
      subst e
      exact Qn.thenJ fun a ha => ⟨rfl, ha.keep [] (by kernel_rfl), hI⟩
  ·
    rintro a w ⟨rfl, ha, hI⟩
    try dsimp only at h0
    refine Qn.of ?_ ha
    refine Qn.then ?_
    refine CodT.seq ?_
    refine CodT.regionL [0] (by kernel_rfl) ?_
    refine OpsT.pures (r := []) [0] [4] (S' := [(4, .int .i64 (-1))]) (by kernel_rfl) ?_
    refine OpsT.done ?_
    refine Qn.then ?_
    refine CodT.ret ?_
    have e := someS h0
    subst e
    refine Qn.keep [4] (S' := [(4, .int .i64 (-1))]) (by kernel_rfl) ?_
    exact post_ret (v := .int .i64 (-1)) (fun a ha => RunRes.run (vs := [.int .i64 (-1)]) (.tmp (t := 4) (by kernel_rfl) .nil) ha (by kernel_rfl)) ⟨rfl, hI⟩
set_option maxRecDepth 100000 in
set_option maxHeartbeats 4000000 in
/-- slices.Clone[[]string,string] -/
theorem c59 (w0 w : World) (Z : Hp) (A : HP) (hI : Inv w0 Z w A) (hT : Tabs Z) (A_a0 : Option Addr) (c_a0 : Nat) (a0 : (List ByteArray)) (hr_a0 : RdS Z cS 1 A_a0 c_a0 a0) (r : (List ByteArray)) (h0 : slices_Clone_string a0 = some r) :
    Calls prog 59 #[.slice A_a0 a0.length c_a0] w (fun e w' => ∃ (A1 : Option Addr) (c1 : Nat), e = .returned (.slice A1 r.length c1) ∧ Inv w0 Z w' (star (ownS 9 cS 1 A1 c1 r) A)) := by
  have e4 := calls_intro (R := (fun e w' => ∃ (A1 : Option Addr) (c1 : Nat), e = .returned (.slice A1 r.length c1) ∧ Inv w0 Z w' (star (ownS 9 cS 1 A1 c1 r) A))) (w := w) (args := [.slice A_a0 a0.length c_a0]) (fn := Go.Proofs.Tryd.f59) 8 Go.Proofs.Tryd.func59 (by rfl) Go.Proofs.Tryd.ntmps59 (by kernel_rfl)
  refine e4 ?_
  clear e4
  unfold slices_Clone_string at h0
  refine CodT.seq ?_
  refine CodT.regionL [0] (by kernel_rfl) ?_
  refine OpsT.pures (r := []) [0] [0] (S' := [(0, .slice A_a0 a0.length c_a0)]) (by kernel_rfl) ?_
  refine OpsT.done ?_
  refine Qn.then ?_
  refine CodT.seq ?_
  refine CodT.seq ?_
  refine CodT.regionL [0, 1] (by kernel_rfl) ?_
  refine OpsT.pures (r := [1]) [0] [0, 3] (S' := [(0, .slice A_a0 a0.length c_a0), (3, .slice A_a0 a0.length c_a0)]) (by kernel_rfl) ?_
  rcases A_a0 with _ | ad1
  rotate_left
  ·
    refine OpsT.cons (Does.yi (Yl.eqlNilF (d := 4) (T := 22) (n := a0.length) (c := c_a0) (ad := ad1) (by kernel_rfl) Go.Proofs.Tryd.underlying22 (by kernel_rfl)) hI ?_)
    refine OpsT.done ?_
    refine Qn.then ?_
    refine CodT.no (by kernel_rfl) ?_
    refine CodT.skip ?_
    refine Qn.then ?_
    refine CodT.seq ?_
    refine CodT.regionL [0, 1, 2, 3] (by kernel_rfl) ?_
    refine OpsT.cons (Does.buildSlice0 (en := cS) (d := 5) (T := 22) (by kernel_rfl) Go.Proofs.Tryd.underlying22 ty9 hI ?_)
    intro b2 w hI
    refine OpsT.pures (r := [2, 3]) [1] [5, 6] (S' := [(5, .slice (some ⟨b2, 0, none⟩) (([] : List ByteArray).length) 0), (6, .slice (some ad1) a0.length c_a0)]) (by kernel_rfl) ?_
    obtain ⟨hg3, h0⟩ := guardS h0
    refine OpsT.cons (Does.append (d := 7) (t := 22) (tx := 22) (ty := 22) (ys := ([] : List ByteArray)) (zs := a0) (x := .slice (some ad1) a0.length c_a0) (by kernel_rfl) Go.Proofs.Tryd.underlying22 ty9 (by kernel_rfl) hI (src_rd Go.Proofs.Tryd.underlying22 hI hr_a0 (one_flat _ (fun _ => rfl))) hr_a0.2.2.1 (by unfold LIM at hg3; omega) hg3 ?_)
    intro A4 cp5 w hI
    refine OpsT.pures (r := []) [3] [2] (S' := [(2, .slice A4 ((([] : List ByteArray) ++ a0).length) cp5)]) (by kernel_rfl) ?_
    refine OpsT.done ?_
    refine Qn.then ?_
    refine CodT.ret ?_
    have e := someS h0
    subst e
    refine Qn.keep [2] (S' := [(2, .slice A4 ((([] : List ByteArray) ++ a0).length) cp5)]) (by kernel_rfl) ?_
    exact post_ret (v := .slice A4 ((([] : List ByteArray) ++ a0).length) cp5) (fun a ha => RunRes.run (vs := [.slice A4 ((([] : List ByteArray) ++ a0).length) cp5]) (.tmp (t := 2) (by kernel_rfl) .nil) ha (by kernel_rfl)) ⟨A4, cp5, rfl, hI⟩
  ·
    have hy6 := RdS.of_none hr_a0
    subst hy6
    replace h0 : some ([] : List ByteArray) = some r := by simpa [LIM] using h0
    refine OpsT.cons (Does.yi (Yl.eqlNilT (d := 4) (T := 22) (n := ([] : List ByteArray).length) (c := c_a0) (by kernel_rfl) Go.Proofs.Tryd.underlying22 (by kernel_rfl)) hI ?_)
    refine OpsT.done ?_
    refine Qn.then ?_
    refine CodT.yes (by kernel_rfl) ?_
    refine CodT.seq ?_
    refine CodT.regionL [0] (by kernel_rfl) ?_
    refine OpsT.pures (r := []) [0] [2] (S' := [(2, .slice none 0 0)]) (by kernel_rfl) ?_
    refine OpsT.done ?_
    refine Qn.then ?_
    refine CodT.ret ?_
    refine Qn.ret_then ?_
    have hI := ownS_nil (α := ByteArray) hI 9 cS 1
    have e := someS h0
    subst e
    refine Qn.keep [2] (S' := [(2, .slice none 0 0)]) (by kernel_rfl) ?_
    exact post_ret (v := .slice none 0 0) (fun a ha => RunRes.run (vs := [.slice none 0 0]) (.tmp (t := 2) (by kernel_rfl) .nil) ha (by kernel_rfl)) ⟨none, 0, rfl, hI⟩
/-- slices.Insert[[]string,string] -/
theorem c58 (w0 w : World) (Z : Hp) (A : HP) (hT : Tabs Z) (A_a0 : Option Addr) (c_a0 : Nat) (a0 : List ByteArray) (a1 : Int) (A_a2 : Option Addr) (c_a2 : Nat) (a2 : List ByteArray) (hI : Inv w0 Z w (star (ownS 9 cS 1 A_a0 c_a0 a0) (star (ownS 9 cS 1 A_a2 c_a2 a2) A))) (r : List ByteArray) (h0 : insS a0 a1 a2 = some r) :
    Calls prog 58 #[.slice A_a0 a0.length c_a0, .int .i64 a1, .slice A_a2 a2.length c_a2] w (fun e w' => ∃ (A1 : Option Addr) (c1 : Nat), e = .returned (.slice A1 r.length c1) ∧ Inv w0 Z w' (star (ownS 9 cS 1 A1 c1 r) A)) :=
  ins_str lay22 rfl w0 w Z A A_a0 c_a0 a0 a1 A_a2 c_a2 a2 hI r h0
set_option maxRecDepth 100000 in
set_option maxHeartbeats 4000000 in
/-- cenotaph/rule.Hold -/
theorem c44 (w0 w : World) (Z : Hp) (A : HP) (hI : Inv w0 Z w A) (hT : Tabs Z) (a0_ID : Int) (a0_Name : ByteArray) (a0_Data : ByteArray) (a0_Sealed : Bool) (a0_Until : Int) (A_a0_Holds : Option Addr) (c_a0_Holds : Nat) (a0_Holds : (List ByteArray)) (hr_a0_Holds : RdS Z cS 1 A_a0_Holds c_a0_Holds a0_Holds) (a1 : ByteArray) (r : (Int × ByteArray × ByteArray × Bool × Int × (List ByteArray) × Int)) (h0 : rule_Hold a0_ID a0_Name a0_Data a0_Sealed a0_Until a0_Holds a1 = some r) :
    Calls prog 44 #[.agg ((([.int .i64 a0_ID, .string a0_Name, .string a0_Data, .bool a0_Sealed, .int .i64 a0_Until, .slice A_a0_Holds a0_Holds.length c_a0_Holds] : List Value))).toArray, .string a1] w (fun e w' => ∃ (A1 : Option Addr) (c1 : Nat) (Z' : Hp), Z.le Z' ∧ e = .returned (.tuple #[.agg ((([.int .i64 r.1, .string r.2.1, .string r.2.2.1, .bool r.2.2.2.1, .int .i64 r.2.2.2.2.1, .slice A1 r.2.2.2.2.2.1.length c1] : List Value))).toArray, .int .i64 r.2.2.2.2.2.2]) ∧ RdS Z' cS 1 A1 c1 r.2.2.2.2.2.1 ∧ Inv w0 Z' w' A) := by
  have e4 := calls_intro (R := (fun e w' => ∃ (A1 : Option Addr) (c1 : Nat) (Z' : Hp), Z.le Z' ∧ e = .returned (.tuple #[.agg ((([.int .i64 r.1, .string r.2.1, .string r.2.2.1, .bool r.2.2.2.1, .int .i64 r.2.2.2.2.1, .slice A1 r.2.2.2.2.2.1.length c1] : List Value))).toArray, .int .i64 r.2.2.2.2.2.2]) ∧ RdS Z' cS 1 A1 c1 r.2.2.2.2.2.1 ∧ Inv w0 Z' w' A)) (w := w) (args := [.agg ((([.int .i64 a0_ID, .string a0_Name, .string a0_Data, .bool a0_Sealed, .int .i64 a0_Until, .slice A_a0_Holds a0_Holds.length c_a0_Holds] : List Value))).toArray, .string a1]) (fn := Go.Proofs.Tryd.f44) 48 Go.Proofs.Tryd.func44 (by rfl) Go.Proofs.Tryd.ntmps44 (by kernel_rfl)
  refine e4 ?_
  clear e4
  unfold rule_Hold at h0
  refine CodT.seq ?_
  refine CodT.regionL [0, 1, 2] (by kernel_rfl) ?_
  refine OpsT.cons (Does.boxL (d := 2) (T := 24) (v := .agg ((([.int .i64 a0_ID, .string a0_Name, .string a0_Data, .bool a0_Sealed, .int .i64 a0_Until, .slice A_a0_Holds a0_Holds.length c_a0_Holds] : List Value))).toArray) ((([.int .i64 a0_ID, .string a0_Name, .string a0_Data, .bool a0_Sealed, .int .i64 a0_Until, .slice A_a0_Holds a0_Holds.length c_a0_Holds] : List Value))) (by kernel_rfl) hI (by kernel_rfl) ?_)
  intro b1 w hI
  refine OpsT.cons (Does.allocL (d := 4) (T := 24) ((([.int .i64 0, .string (⟨#[]⟩ : ByteArray), .string (⟨#[]⟩ : ByteArray), .bool false, .int .i64 0, .slice none 0 0] : List Value))) (by kernel_rfl) ty24 hI (by kernel_rfl) ?_)
  intro b2 w hI
  refine OpsT.pures (r := []) [2] [1, 2, 4] (S' := [(1, .string a1), (2, .pointer (some ⟨b1, 0, none⟩)), (4, .pointer (some ⟨b2, 0, none⟩))]) (by kernel_rfl) ?_
  refine OpsT.done ?_
  refine Qn.then ?_
  refine CodT.seq ?_
  refine CodT.block ?_
  refine CodT.seq ?_
  refine CodT.regionL [0, 1, 2, 3] (by kernel_rfl) ?_
  refine OpsT.pures (r := [1, 2, 3]) [0] [1, 2, 4, 8] (S' := [(1, .string a1), (2, .pointer (some ⟨b1, 0, none⟩)), (4, .pointer (some ⟨b2, 0, none⟩)), (8, .pointer (some ⟨b1, 3, none⟩))]) (by kernel_rfl) ?_
  refine OpsT.cons (Does.yi (Yl.load (d := 9) (T := 4) (v := .bool a0_Sealed) (by kernel_rfl) (ldB ty4 (l := (([.int .i64 a0_ID, .string a0_Name, .string a0_Data, .bool a0_Sealed, .int .i64 a0_Until, .slice A_a0_Holds a0_Holds.length c_a0_Holds] : List Value))) (o := 3) (v := .bool a0_Sealed) (pick2 _ _ _) (by kernel_rfl))) hI ?_)
  refine OpsT.pures (r := []) [2, 3] [1, 2, 4, 7] (S' := [(1, .string a1), (2, .pointer (some ⟨b1, 0, none⟩)), (4, .pointer (some ⟨b2, 0, none⟩)), (7, .bool (!a0_Sealed))]) (by kernel_rfl) ?_
  refine OpsT.done ?_
  refine Qn.then ?_
  by_cases hb3 : (!a0_Sealed) = true
  · rw [if_pos hb3] at h0
    refine CodT.yes' (b := !a0_Sealed) (by kernel_rfl) hb3 ?_
    refine CodT.seq ?_
    refine CodT.regionL [0, 1, 2] (by kernel_rfl) ?_
    refine OpsT.cons (Does.yi (Yl.load (d := 11) (T := 24) (v := .agg ((([.int .i64 a0_ID, .string a0_Name, .string a0_Data, .bool a0_Sealed, .int .i64 a0_Until, .slice A_a0_Holds a0_Holds.length c_a0_Holds] : List Value))).toArray) (by kernel_rfl) (ldBN ty24 (l := (([.int .i64 a0_ID, .string a0_Name, .string a0_Data, .bool a0_Sealed, .int .i64 a0_Until, .slice A_a0_Holds a0_Holds.length c_a0_Holds] : List Value))) (o := 0) (cs := (([.int .i64 a0_ID, .string a0_Name, .string a0_Data, .bool a0_Sealed, .int .i64 a0_Until, .slice A_a0_Holds a0_Holds.length c_a0_Holds] : List Value))) (pick2 _ _ _) (by kernel_rfl) (whole _ _ (by kernel_rfl)))) hI ?_)
    refine OpsT.cons (Does.storeLit (T := 24) (b := b2) (o := 0) (v := .agg ((([.int .i64 a0_ID, .string a0_Name, .string a0_Data, .bool a0_Sealed, .int .i64 a0_Until, .slice A_a0_Holds a0_Holds.length c_a0_Holds] : List Value))).toArray) (l := (([.int .i64 0, .string (⟨#[]⟩ : ByteArray), .string (⟨#[]⟩ : ByteArray), .bool false, .int .i64 0, .slice none 0 0] : List Value))) (vs := (([.int .i64 a0_ID, .string a0_Name, .string a0_Data, .bool a0_Sealed, .int .i64 a0_Until, .slice A_a0_Holds a0_Holds.length c_a0_Holds] : List Value))) (L' := (([.int .i64 a0_ID, .string a0_Name, .string a0_Data, .bool a0_Sealed, .int .i64 a0_Until, .slice A_a0_Holds a0_Holds.length c_a0_Holds] : List Value))) (by kernel_rfl) ty24 hI (by kernel_rfl) (by kernel_rfl) (by kernel_rfl) (by kernel_rfl) (by kernel_rfl) ?_)
    intro w hI
    refine OpsT.pures (r := []) [2] [4, 5] (S' := [(4, .pointer (some ⟨b2, 0, none⟩)), (5, .int .i64 6)]) (by kernel_rfl) ?_
    refine OpsT.done ?_
    refine Qn.then ?_
    refine CodT.ret ?_
    refine Qn.block_ret ?_
    refine Qn.ret_then ?_
    have hL4 := (ldBN ty24 (l := (([.int .i64 a0_ID, .string a0_Name, .string a0_Data, .bool a0_Sealed, .int .i64 a0_Until, .slice A_a0_Holds a0_Holds.length c_a0_Holds] : List Value))) (o := 0) (cs := (([.int .i64 a0_ID, .string a0_Name, .string a0_Data, .bool a0_Sealed, .int .i64 a0_Until, .slice A_a0_Holds a0_Holds.length c_a0_Holds] : List Value))) (ent_refl _) (by kernel_rfl) (whole _ _ (by kernel_rfl))) w hI
    have hI := hI.drop
    have hI := hI.drop
    have e := someS h0
    subst e
    refine Qn.keep [4, 5] (S' := [(4, .pointer (some ⟨b2, 0, none⟩)), (5, .int .i64 6)]) (by kernel_rfl) ?_
    exact post_ret (v := .tuple #[.agg ((([.int .i64 a0_ID, .string a0_Name, .string a0_Data, .bool a0_Sealed, .int .i64 a0_Until, .slice A_a0_Holds a0_Holds.length c_a0_Holds] : List Value))).toArray, .int .i64 6]) (fun a ha => RunRes.run (vs := [.agg ((([.int .i64 a0_ID, .string a0_Name, .string a0_Data, .bool a0_Sealed, .int .i64 a0_Until, .slice A_a0_Holds a0_Holds.length c_a0_Holds] : List Value))).toArray, .int .i64 6]) (.cell (t := 4) (T := 24) (ad := ⟨b2, 0, none⟩) (by kernel_rfl) hL4 (.tmp (t := 5) (by kernel_rfl) .nil)) ha (by kernel_rfl)) ⟨A_a0_Holds, c_a0_Holds, Z, Hp.le_refl _, rfl, hr_a0_Holds, hI⟩
  · rw [if_neg hb3] at h0
    refine CodT.no' (b := !a0_Sealed) (by kernel_rfl) (by simpa using hb3) ?_
    refine CodT.seq ?_
    refine CodT.regionL [0, 1, 2, 3] (by kernel_rfl) ?_
    refine OpsT.pures (r := [1, 2, 3]) [0] [1, 2, 4, 13] (S' := [(1, .string a1), (2, .pointer (some ⟨b1, 0, none⟩)), (4, .pointer (some ⟨b2, 0, none⟩)), (13, .string a1)]) (by kernel_rfl) ?_
    obtain ⟨y6, hc5, h0⟩ := bindS h0
    try dsimp only at h0
    refine OpsT.cons (Does.call (d := some 14) (n := 26) (vs := [.string a1]) (by kernel_rfl) en26 (c26 w0 w _ _ hI hT a1 _ hc5) ?_)
    rintro e w ⟨rfl, hI⟩
    refine ⟨_, rfl, ?_⟩
    refine OpsT.pures (r := []) [2, 3] [1, 2, 4, 12] (S' := [(1, .string a1), (2, .pointer (some ⟨b1, 0, none⟩)), (4, .pointer (some ⟨b2, 0, none⟩)), (12, .bool (!y6))]) (by kernel_rfl) ?_
    refine OpsT.done ?_
    refine Qn.then ?_
    by_cases hb7 : (!y6) = true
    · rw [if_pos hb7] at h0
      refine CodT.yes' (b := !y6) (by kernel_rfl) hb7 ?_
      refine CodT.seq ?_
      refine CodT.regionL [0, 1, 2] (by kernel_rfl) ?_
      refine OpsT.cons (Does.yi (Yl.load (d := 16) (T := 24) (v := .agg ((([.int .i64 a0_ID, .string a0_Name, .string a0_Data, .bool a0_Sealed, .int .i64 a0_Until, .slice A_a0_Holds a0_Holds.length c_a0_Holds] : List Value))).toArray) (by kernel_rfl) (ldBN ty24 (l := (([.int .i64 a0_ID, .string a0_Name, .string a0_Data, .bool a0_Sealed, .int .i64 a0_Until, .slice A_a0_Holds a0_Holds.length c_a0_Holds] : List Value))) (o := 0) (cs := (([.int .i64 a0_ID, .string a0_Name, .string a0_Data, .bool a0_Sealed, .int .i64 a0_Until, .slice A_a0_Holds a0_Holds.length c_a0_Holds] : List Value))) (pick2 _ _ _) (by kernel_rfl) (whole _ _ (by kernel_rfl)))) hI ?_)
      refine OpsT.cons (Does.storeLit (T := 24) (b := b2) (o := 0) (v := .agg ((([.int .i64 a0_ID, .string a0_Name, .string a0_Data, .bool a0_Sealed, .int .i64 a0_Until, .slice A_a0_Holds a0_Holds.length c_a0_Holds] : List Value))).toArray) (l := (([.int .i64 0, .string (⟨#[]⟩ : ByteArray), .string (⟨#[]⟩ : ByteArray), .bool false, .int .i64 0, .slice none 0 0] : List Value))) (vs := (([.int .i64 a0_ID, .string a0_Name, .string a0_Data, .bool a0_Sealed, .int .i64 a0_Until, .slice A_a0_Holds a0_Holds.length c_a0_Holds] : List Value))) (L' := (([.int .i64 a0_ID, .string a0_Name, .string a0_Data, .bool a0_Sealed, .int .i64 a0_Until, .slice A_a0_Holds a0_Holds.length c_a0_Holds] : List Value))) (by kernel_rfl) ty24 hI (by kernel_rfl) (by kernel_rfl) (by kernel_rfl) (by kernel_rfl) (by kernel_rfl) ?_)
      intro w hI
      refine OpsT.pures (r := []) [2] [4, 5] (S' := [(4, .pointer (some ⟨b2, 0, none⟩)), (5, .int .i64 2)]) (by kernel_rfl) ?_
      refine OpsT.done ?_
      refine Qn.then ?_
      refine CodT.ret ?_
      refine Qn.block_ret ?_
      refine Qn.ret_then ?_
      have hL8 := (ldBN ty24 (l := (([.int .i64 a0_ID, .string a0_Name, .string a0_Data, .bool a0_Sealed, .int .i64 a0_Until, .slice A_a0_Holds a0_Holds.length c_a0_Holds] : List Value))) (o := 0) (cs := (([.int .i64 a0_ID, .string a0_Name, .string a0_Data, .bool a0_Sealed, .int .i64 a0_Until, .slice A_a0_Holds a0_Holds.length c_a0_Holds] : List Value))) (ent_refl _) (by kernel_rfl) (whole _ _ (by kernel_rfl))) w hI
      have hI := hI.drop
      have hI := hI.drop
      have e := someS h0
      subst e
      refine Qn.keep [4, 5] (S' := [(4, .pointer (some ⟨b2, 0, none⟩)), (5, .int .i64 2)]) (by kernel_rfl) ?_
      exact post_ret (v := .tuple #[.agg ((([.int .i64 a0_ID, .string a0_Name, .string a0_Data, .bool a0_Sealed, .int .i64 a0_Until, .slice A_a0_Holds a0_Holds.length c_a0_Holds] : List Value))).toArray, .int .i64 2]) (fun a ha => RunRes.run (vs := [.agg ((([.int .i64 a0_ID, .string a0_Name, .string a0_Data, .bool a0_Sealed, .int .i64 a0_Until, .slice A_a0_Holds a0_Holds.length c_a0_Holds] : List Value))).toArray, .int .i64 2]) (.cell (t := 4) (T := 24) (ad := ⟨b2, 0, none⟩) (by kernel_rfl) hL8 (.tmp (t := 5) (by kernel_rfl) .nil)) ha (by kernel_rfl)) ⟨A_a0_Holds, c_a0_Holds, Z, Hp.le_refl _, rfl, hr_a0_Holds, hI⟩
    · rw [if_neg hb7] at h0
      refine CodT.no' (b := !y6) (by kernel_rfl) (by simpa using hb7) ?_
      refine CodT.seq ?_
      refine CodT.regionL [0, 1, 2, 3, 4] (by kernel_rfl) ?_
      refine OpsT.pures (r := [1, 2, 3, 4]) [0] [1, 2, 4, 18] (S' := [(1, .string a1), (2, .pointer (some ⟨b1, 0, none⟩)), (4, .pointer (some ⟨b2, 0, none⟩)), (18, .pointer (some ⟨b1, 5, none⟩))]) (by kernel_rfl) ?_
      refine OpsT.cons (Does.yi (Yl.load (d := 19) (T := 22) (v := .slice A_a0_Holds a0_Holds.length c_a0_Holds) (by kernel_rfl) (ldB ty22 (l := (([.int .i64 a0_ID, .string a0_Name, .string a0_Data, .bool a0_Sealed, .int .i64 a0_Until, .slice A_a0_Holds a0_Holds.length c_a0_Holds] : List Value))) (o := 5) (v := .slice A_a0_Holds a0_Holds.length c_a0_Holds) (pick2 _ _ _) (by kernel_rfl))) hI ?_)
      refine OpsT.pures (r := [3, 4]) [2] [1, 2, 4, 19, 20] (S' := [(1, .string a1), (2, .pointer (some ⟨b1, 0, none⟩)), (4, .pointer (some ⟨b2, 0, none⟩)), (19, .slice A_a0_Holds a0_Holds.length c_a0_Holds), (20, .string a1)]) (by kernel_rfl) ?_
      obtain ⟨y10, hc9, h0⟩ := bindS h0
      try dsimp only at h0
      refine OpsT.cons (Does.call (d := some 21) (n := 55) (vs := [.slice A_a0_Holds a0_Holds.length c_a0_Holds, .string a1]) (by kernel_rfl) en55 (c55 w0 w _ _ hI hT A_a0_Holds c_a0_Holds a0_Holds hr_a0_Holds a1 _ hc9) ?_)
      rintro e w ⟨rfl, hI⟩
      refine ⟨_, rfl, ?_⟩
      refine OpsT.pures (r := []) [4] [1, 2, 4, 17] (S' := [(1, .string a1), (2, .pointer (some ⟨b1, 0, none⟩)), (4, .pointer (some ⟨b2, 0, none⟩)), (17, .bool y10)]) (by kernel_rfl) ?_
      refine OpsT.done ?_
      refine Qn.then ?_
      by_cases hb11 : y10 = true
      · rw [if_pos hb11] at h0
        refine CodT.yes' (b := y10) (by kernel_rfl) hb11 ?_
        refine CodT.seq ?_
        refine CodT.regionL [0, 1, 2] (by kernel_rfl) ?_
        refine OpsT.cons (Does.yi (Yl.load (d := 22) (T := 24) (v := .agg ((([.int .i64 a0_ID, .string a0_Name, .string a0_Data, .bool a0_Sealed, .int .i64 a0_Until, .slice A_a0_Holds a0_Holds.length c_a0_Holds] : List Value))).toArray) (by kernel_rfl) (ldBN ty24 (l := (([.int .i64 a0_ID, .string a0_Name, .string a0_Data, .bool a0_Sealed, .int .i64 a0_Until, .slice A_a0_Holds a0_Holds.length c_a0_Holds] : List Value))) (o := 0) (cs := (([.int .i64 a0_ID, .string a0_Name, .string a0_Data, .bool a0_Sealed, .int .i64 a0_Until, .slice A_a0_Holds a0_Holds.length c_a0_Holds] : List Value))) (pick2 _ _ _) (by kernel_rfl) (whole _ _ (by kernel_rfl)))) hI ?_)
        refine OpsT.cons (Does.storeLit (T := 24) (b := b2) (o := 0) (v := .agg ((([.int .i64 a0_ID, .string a0_Name, .string a0_Data, .bool a0_Sealed, .int .i64 a0_Until, .slice A_a0_Holds a0_Holds.length c_a0_Holds] : List Value))).toArray) (l := (([.int .i64 0, .string (⟨#[]⟩ : ByteArray), .string (⟨#[]⟩ : ByteArray), .bool false, .int .i64 0, .slice none 0 0] : List Value))) (vs := (([.int .i64 a0_ID, .string a0_Name, .string a0_Data, .bool a0_Sealed, .int .i64 a0_Until, .slice A_a0_Holds a0_Holds.length c_a0_Holds] : List Value))) (L' := (([.int .i64 a0_ID, .string a0_Name, .string a0_Data, .bool a0_Sealed, .int .i64 a0_Until, .slice A_a0_Holds a0_Holds.length c_a0_Holds] : List Value))) (by kernel_rfl) ty24 hI (by kernel_rfl) (by kernel_rfl) (by kernel_rfl) (by kernel_rfl) (by kernel_rfl) ?_)
        intro w hI
        refine OpsT.pures (r := []) [2] [4, 5] (S' := [(4, .pointer (some ⟨b2, 0, none⟩)), (5, .int .i64 4)]) (by kernel_rfl) ?_
        refine OpsT.done ?_
        refine Qn.then ?_
        refine CodT.ret ?_
        refine Qn.block_ret ?_
        refine Qn.ret_then ?_
        have hL12 := (ldBN ty24 (l := (([.int .i64 a0_ID, .string a0_Name, .string a0_Data, .bool a0_Sealed, .int .i64 a0_Until, .slice A_a0_Holds a0_Holds.length c_a0_Holds] : List Value))) (o := 0) (cs := (([.int .i64 a0_ID, .string a0_Name, .string a0_Data, .bool a0_Sealed, .int .i64 a0_Until, .slice A_a0_Holds a0_Holds.length c_a0_Holds] : List Value))) (ent_refl _) (by kernel_rfl) (whole _ _ (by kernel_rfl))) w hI
        have hI := hI.drop
        have hI := hI.drop
        have e := someS h0
        subst e
        refine Qn.keep [4, 5] (S' := [(4, .pointer (some ⟨b2, 0, none⟩)), (5, .int .i64 4)]) (by kernel_rfl) ?_
        exact post_ret (v := .tuple #[.agg ((([.int .i64 a0_ID, .string a0_Name, .string a0_Data, .bool a0_Sealed, .int .i64 a0_Until, .slice A_a0_Holds a0_Holds.length c_a0_Holds] : List Value))).toArray, .int .i64 4]) (fun a ha => RunRes.run (vs := [.agg ((([.int .i64 a0_ID, .string a0_Name, .string a0_Data, .bool a0_Sealed, .int .i64 a0_Until, .slice A_a0_Holds a0_Holds.length c_a0_Holds] : List Value))).toArray, .int .i64 4]) (.cell (t := 4) (T := 24) (ad := ⟨b2, 0, none⟩) (by kernel_rfl) hL12 (.tmp (t := 5) (by kernel_rfl) .nil)) ha (by kernel_rfl)) ⟨A_a0_Holds, c_a0_Holds, Z, Hp.le_refl _, rfl, hr_a0_Holds, hI⟩
      · rw [if_neg hb11] at h0
        refine CodT.no' (b := y10) (by kernel_rfl) (by simpa using hb11) ?_
        refine CodT.seq ?_
        refine CodT.regionL [0, 1, 2, 3, 4] (by kernel_rfl) ?_
        refine OpsT.pures (r := [1, 2, 3, 4]) [0] [1, 2, 4, 24] (S' := [(1, .string a1), (2, .pointer (some ⟨b1, 0, none⟩)), (4, .pointer (some ⟨b2, 0, none⟩)), (24, .pointer (some ⟨b1, 5, none⟩))]) (by kernel_rfl) ?_
        refine OpsT.cons (Does.yi (Yl.load (d := 25) (T := 22) (v := .slice A_a0_Holds a0_Holds.length c_a0_Holds) (by kernel_rfl) (ldB ty22 (l := (([.int .i64 a0_ID, .string a0_Name, .string a0_Data, .bool a0_Sealed, .int .i64 a0_Until, .slice A_a0_Holds a0_Holds.length c_a0_Holds] : List Value))) (o := 5) (v := .slice A_a0_Holds a0_Holds.length c_a0_Holds) (pick2 _ _ _) (by kernel_rfl))) hI ?_)
        refine OpsT.pures (r := []) [2, 3, 4] [1, 2, 4, 23] (S' := [(1, .string a1), (2, .pointer (some ⟨b1, 0, none⟩)), (4, .pointer (some ⟨b2, 0, none⟩)), (23, .bool (decide ((a0_Holds.length : Int) ≥ 4)))]) (by kernel_rfl) ?_
        refine OpsT.done ?_
        refine Qn.then ?_
        by_cases hb13 : (decide ((a0_Holds.length : Int) ≥ 4)) = true
        · rw [if_pos hb13] at h0
          refine CodT.yes' (b := decide ((a0_Holds.length : Int) ≥ 4)) (by kernel_rfl) hb13 ?_
          refine CodT.seq ?_
          refine CodT.regionL [0, 1, 2] (by kernel_rfl) ?_
          refine OpsT.cons (Does.yi (Yl.load (d := 28) (T := 24) (v := .agg ((([.int .i64 a0_ID, .string a0_Name, .string a0_Data, .bool a0_Sealed, .int .i64 a0_Until, .slice A_a0_Holds a0_Holds.length c_a0_Holds] : List Value))).toArray) (by kernel_rfl) (ldBN ty24 (l := (([.int .i64 a0_ID, .string a0_Name, .string a0_Data, .bool a0_Sealed, .int .i64 a0_Until, .slice A_a0_Holds a0_Holds.length c_a0_Holds] : List Value))) (o := 0) (cs := (([.int .i64 a0_ID, .string a0_Name, .string a0_Data, .bool a0_Sealed, .int .i64 a0_Until, .slice A_a0_Holds a0_Holds.length c_a0_Holds] : List Value))) (pick2 _ _ _) (by kernel_rfl) (whole _ _ (by kernel_rfl)))) hI ?_)
          refine OpsT.cons (Does.storeLit (T := 24) (b := b2) (o := 0) (v := .agg ((([.int .i64 a0_ID, .string a0_Name, .string a0_Data, .bool a0_Sealed, .int .i64 a0_Until, .slice A_a0_Holds a0_Holds.length c_a0_Holds] : List Value))).toArray) (l := (([.int .i64 0, .string (⟨#[]⟩ : ByteArray), .string (⟨#[]⟩ : ByteArray), .bool false, .int .i64 0, .slice none 0 0] : List Value))) (vs := (([.int .i64 a0_ID, .string a0_Name, .string a0_Data, .bool a0_Sealed, .int .i64 a0_Until, .slice A_a0_Holds a0_Holds.length c_a0_Holds] : List Value))) (L' := (([.int .i64 a0_ID, .string a0_Name, .string a0_Data, .bool a0_Sealed, .int .i64 a0_Until, .slice A_a0_Holds a0_Holds.length c_a0_Holds] : List Value))) (by kernel_rfl) ty24 hI (by kernel_rfl) (by kernel_rfl) (by kernel_rfl) (by kernel_rfl) (by kernel_rfl) ?_)
          intro w hI
          refine OpsT.pures (r := []) [2] [4, 5] (S' := [(4, .pointer (some ⟨b2, 0, none⟩)), (5, .int .i64 10)]) (by kernel_rfl) ?_
          refine OpsT.done ?_
          refine Qn.then ?_
          refine CodT.ret ?_
          refine Qn.block_ret ?_
          refine Qn.ret_then ?_
          have hL14 := (ldBN ty24 (l := (([.int .i64 a0_ID, .string a0_Name, .string a0_Data, .bool a0_Sealed, .int .i64 a0_Until, .slice A_a0_Holds a0_Holds.length c_a0_Holds] : List Value))) (o := 0) (cs := (([.int .i64 a0_ID, .string a0_Name, .string a0_Data, .bool a0_Sealed, .int .i64 a0_Until, .slice A_a0_Holds a0_Holds.length c_a0_Holds] : List Value))) (ent_refl _) (by kernel_rfl) (whole _ _ (by kernel_rfl))) w hI
          have hI := hI.drop
          have hI := hI.drop
          have e := someS h0
          subst e
          refine Qn.keep [4, 5] (S' := [(4, .pointer (some ⟨b2, 0, none⟩)), (5, .int .i64 10)]) (by kernel_rfl) ?_
          exact post_ret (v := .tuple #[.agg ((([.int .i64 a0_ID, .string a0_Name, .string a0_Data, .bool a0_Sealed, .int .i64 a0_Until, .slice A_a0_Holds a0_Holds.length c_a0_Holds] : List Value))).toArray, .int .i64 10]) (fun a ha => RunRes.run (vs := [.agg ((([.int .i64 a0_ID, .string a0_Name, .string a0_Data, .bool a0_Sealed, .int .i64 a0_Until, .slice A_a0_Holds a0_Holds.length c_a0_Holds] : List Value))).toArray, .int .i64 10]) (.cell (t := 4) (T := 24) (ad := ⟨b2, 0, none⟩) (by kernel_rfl) hL14 (.tmp (t := 5) (by kernel_rfl) .nil)) ha (by kernel_rfl)) ⟨A_a0_Holds, c_a0_Holds, Z, Hp.le_refl _, rfl, hr_a0_Holds, hI⟩
        · rw [if_neg hb13] at h0
          refine CodT.no' (b := decide ((a0_Holds.length : Int) ≥ 4)) (by kernel_rfl) (by simpa using hb13) ?_
          refine CodT.skip ?_
          refine Qn.block_normal ?_
          refine Qn.then ?_
          refine CodT.seq ?_
          refine CodT.regionL [0, 1, 2, 3, 4, 5] (by kernel_rfl) ?_
          refine OpsT.pures (r := [1, 2, 3, 4, 5]) [0] [1, 2, 4, 29] (S' := [(1, .string a1), (2, .pointer (some ⟨b1, 0, none⟩)), (4, .pointer (some ⟨b2, 0, none⟩)), (29, .pointer (some ⟨b1, 5, none⟩))]) (by kernel_rfl) ?_
          refine OpsT.cons (Does.yi (Yl.load (d := 30) (T := 22) (v := .slice A_a0_Holds a0_Holds.length c_a0_Holds) (by kernel_rfl) (ldB ty22 (l := (([.int .i64 a0_ID, .string a0_Name, .string a0_Data, .bool a0_Sealed, .int .i64 a0_Until, .slice A_a0_Holds a0_Holds.length c_a0_Holds] : List Value))) (o := 5) (v := .slice A_a0_Holds a0_Holds.length c_a0_Holds) (pick2 _ _ _) (by kernel_rfl))) hI ?_)
          refine OpsT.pures (r := [4, 5]) [2, 3] [1, 2, 4, 30, 32] (S' := [(1, .string a1), (2, .pointer (some ⟨b1, 0, none⟩)), (4, .pointer (some ⟨b2, 0, none⟩)), (30, .slice A_a0_Holds a0_Holds.length c_a0_Holds), (32, .func (.func 57) #[.string a1] #[])]) (by kernel_rfl) ?_
          obtain ⟨y16, hc15, h0⟩ := bindS h0
          try dsimp only at h0
          refine OpsT.cons (Does.call (d := some 33) (n := 56) (vs := [.slice A_a0_Holds a0_Holds.length c_a0_Holds, .func (.func 57) #[.string a1] #[]]) (by kernel_rfl) en56 (c56 w0 w _ _ hI hT A_a0_Holds c_a0_Holds a0_Holds hr_a0_Holds a1 _ hc15) ?_)
          rintro e w ⟨rfl, hI⟩
          refine ⟨_, rfl, ?_⟩
          refine OpsT.pures (r := []) [5] [1, 2, 4, 6] (S' := [(1, .string a1), (2, .pointer (some ⟨b1, 0, none⟩)), (4, .pointer (some ⟨b2, 0, none⟩)), (6, .int .i64 y16)]) (by kernel_rfl) ?_
          refine OpsT.done ?_
          refine Qn.then ?_
          obtain ⟨r1, h1, h0⟩ := bindS h0
          refine CodT.meet (fun a w => ∃ (x17 : Int), x17 = r1 ∧ Fr 48 [(1, .string a1), (2, .pointer (some ⟨b1, 0, none⟩)), (4, .pointer (some ⟨b2, 0, none⟩)), (6, .int .i64 x17)] a ∧ Inv w0 Z w (star (pt b2 (.cells ((([.int .i64 0, .string (⟨#[]⟩ : ByteArray), .string (⟨#[]⟩ : ByteArray), .bool false, .int .i64 0, .slice none 0 0] : List Value))).toArray 24 (0, 0))) (star (pt b1 (.cells ((([.int .i64 a0_ID, .string a0_Name, .string a0_Data, .bool a0_Sealed, .int .i64 a0_Until, .slice A_a0_Holds a0_Holds.length c_a0_Holds] : List Value))).toArray 24 (0, 0))) A))) ?_ ?_
          ·
            refine CodT.seq ?_
            refine CodT.regionL [0, 1] (by kernel_rfl) ?_
            refine OpsT.pures (r := []) [0, 1] [1, 2, 4, 6, 35] (S' := [(1, .string a1), (2, .pointer (some ⟨b1, 0, none⟩)), (4, .pointer (some ⟨b2, 0, none⟩)), (6, .int .i64 y16), (35, .bool (decide (y16 < 0)))]) (by kernel_rfl) ?_
            refine OpsT.done ?_
            refine Qn.then ?_
            by_cases hb18 : (decide (y16 < 0)) = true
            · rw [if_pos hb18] at h1
              refine CodT.yes' (b := decide (y16 < 0)) (by kernel_rfl) hb18 ?_
              refine CodT.regionL [0, 1, 2, 3] (by kernel_rfl) ?_
              refine OpsT.pures (r := [1, 2, 3]) [0] [1, 2, 4, 36] (S' := [(1, .string a1), (2, .pointer (some ⟨b1, 0, none⟩)), (4, .pointer (some ⟨b2, 0, none⟩)), (36, .pointer (some ⟨b1, 5, none⟩))]) (by kernel_rfl) ?_
              refine OpsT.cons (Does.yi (Yl.load (d := 37) (T := 22) (v := .slice A_a0_Holds a0_Holds.length c_a0_Holds) (by kernel_rfl) (ldB ty22 (l := (([.int .i64 a0_ID, .string a0_Name, .string a0_Data, .bool a0_Sealed, .int .i64 a0_Until, .slice A_a0_Holds a0_Holds.length c_a0_Holds] : List Value))) (o := 5) (v := .slice A_a0_Holds a0_Holds.length c_a0_Holds) (pick2 _ _ _) (by kernel_rfl))) hI ?_)
              refine OpsT.pures (r := []) [2, 3] [1, 2, 4, 6] (S' := [(1, .string a1), (2, .pointer (some ⟨b1, 0, none⟩)), (4, .pointer (some ⟨b2, 0, none⟩)), (6, .int .i64 (a0_Holds.length : Int))]) (by kernel_rfl) ?_
              refine OpsT.done ?_
              have e := someS h1
              subst e
              exact Qn.thenJ fun a ha => ⟨(a0_Holds.length : Int), rfl, ha.keep [1, 2, 4, 6] (by kernel_rfl), hI⟩
            · rw [if_neg hb18] at h1
              refine CodT.no' (b := decide (y16 < 0)) (by kernel_rfl) (by simpa using hb18) ?_
              refine CodT.skip ?_
              have e := someS h1
              subst e
              exact Qn.thenJ fun a ha => ⟨y16, rfl, ha.keep [1, 2, 4, 6] (by kernel_rfl), hI⟩
          ·
            rintro a w ⟨x17, rfl, ha, hI⟩
            try dsimp only at h0
            refine CodT.of ?_ ha
            refine CodT.seq ?_
            refine CodT.regionL [0, 1, 2, 3, 4, 5, 6, 7, 8] (by kernel_rfl) ?_
            refine OpsT.pures (r := [1, 2, 3, 4, 5, 6, 7, 8]) [0] [1, 2, 4, 6, 39] (S' := [(1, .string a1), (2, .pointer (some ⟨b1, 0, none⟩)), (4, .pointer (some ⟨b2, 0, none⟩)), (6, .int .i64 x17), (39, .pointer (some ⟨b1, 5, none⟩))]) (by kernel_rfl) ?_
            refine OpsT.cons (Does.yi (Yl.load (d := 40) (T := 22) (v := .slice A_a0_Holds a0_Holds.length c_a0_Holds) (by kernel_rfl) (ldB ty22 (l := (([.int .i64 a0_ID, .string a0_Name, .string a0_Data, .bool a0_Sealed, .int .i64 a0_Until, .slice A_a0_Holds a0_Holds.length c_a0_Holds] : List Value))) (o := 5) (v := .slice A_a0_Holds a0_Holds.length c_a0_Holds) (pick2 _ _ _) (by kernel_rfl))) hI ?_)
            obtain ⟨y20, hc19, h0⟩ := bindS h0
            try dsimp only at h0
            refine OpsT.cons (Does.call (d := some 41) (n := 59) (vs := [.slice A_a0_Holds a0_Holds.length c_a0_Holds]) (by kernel_rfl) en59 (c59 w0 w _ _ hI hT A_a0_Holds c_a0_Holds a0_Holds hr_a0_Holds _ hc19) ?_)
            rintro e w ⟨A21, cp22, rfl, hI⟩
            refine ⟨_, rfl, ?_⟩
            refine OpsT.pures (r := [5, 6, 7, 8]) [3, 4] [2, 4, 41, 42, 43] (S' := [(2, .pointer (some ⟨b1, 0, none⟩)), (4, .pointer (some ⟨b2, 0, none⟩)), (41, .slice A21 y20.length cp22), (42, .int .i64 x17), (43, .string a1)]) (by kernel_rfl) ?_
            refine OpsT.cons (Does.buildSlice (en := cS) (d := 44) (n := 1) (T := 22) (ps := [(0, .string a1)]) ([a1] : List ByteArray) (by kernel_rfl) Go.Proofs.Tryd.underlying22 ty9 (by kernel_rfl) (by kernel_rfl) (by kernel_rfl) (by kernel_rfl) (len_all (fun _ => rfl)) hI ?_)
            intro b23 w hI
            have hI := hI.mono (pick2 _ _ _)
            obtain ⟨y25, hc24, h0⟩ := bindS h0
            try dsimp only at h0
            refine OpsT.cons (Does.call (d := some 45) (n := 58) (vs := [.slice A21 y20.length cp22, .int .i64 x17, .slice (some ⟨b23, 0, none⟩) (([a1] : List ByteArray).length) 1]) (by kernel_rfl) en58 (c58 w0 w _ _ hT A21 cp22 y20 x17 (some ⟨b23, 0, none⟩) 1 ([a1] : List ByteArray) hI _ hc24) ?_)
            rintro e w ⟨A26, cp27, rfl, hI⟩
            refine ⟨_, rfl, ?_⟩
            refine OpsT.pures (r := [8]) [7] [2, 4, 45, 46] (S' := [(2, .pointer (some ⟨b1, 0, none⟩)), (4, .pointer (some ⟨b2, 0, none⟩)), (45, .slice A26 y25.length cp27), (46, .pointer (some ⟨b1, 5, none⟩))]) (by kernel_rfl) ?_
            have hI := hI.mono (pick3 _ _ _ _)
            refine OpsT.cons (Does.storeLit (T := 22) (b := b1) (o := 5) (v := .slice A26 y25.length cp27) (l := (([.int .i64 a0_ID, .string a0_Name, .string a0_Data, .bool a0_Sealed, .int .i64 a0_Until, .slice A_a0_Holds a0_Holds.length c_a0_Holds] : List Value))) (vs := ([.slice A26 y25.length cp27] : List Value)) (L' := (([.int .i64 a0_ID, .string a0_Name, .string a0_Data, .bool a0_Sealed, .int .i64 a0_Until, .slice A26 y25.length cp27] : List Value))) (by kernel_rfl) ty22 hI (by kernel_rfl) (by kernel_rfl) (by kernel_rfl) (by kernel_rfl) (by kernel_rfl) ?_)
            intro w hI
            refine OpsT.done ?_
            refine Qn.then ?_
            refine CodT.seq ?_
            refine CodT.regionL [0, 1, 2] (by kernel_rfl) ?_
            refine OpsT.cons (Does.yi (Yl.load (d := 47) (T := 24) (v := .agg ((([.int .i64 a0_ID, .string a0_Name, .string a0_Data, .bool a0_Sealed, .int .i64 a0_Until, .slice A26 y25.length cp27] : List Value))).toArray) (by kernel_rfl) (ldBN ty24 (l := (([.int .i64 a0_ID, .string a0_Name, .string a0_Data, .bool a0_Sealed, .int .i64 a0_Until, .slice A26 y25.length cp27] : List Value))) (o := 0) (cs := (([.int .i64 a0_ID, .string a0_Name, .string a0_Data, .bool a0_Sealed, .int .i64 a0_Until, .slice A26 y25.length cp27] : List Value))) (ent_refl _) (by kernel_rfl) (whole _ _ (by kernel_rfl)))) hI ?_)
            have hI := hI.mono (pick3 _ _ _ _)
            refine OpsT.cons (Does.storeLit (T := 24) (b := b2) (o := 0) (v := .agg ((([.int .i64 a0_ID, .string a0_Name, .string a0_Data, .bool a0_Sealed, .int .i64 a0_Until, .slice A26 y25.length cp27] : List Value))).toArray) (l := (([.int .i64 0, .string (⟨#[]⟩ : ByteArray), .string (⟨#[]⟩ : ByteArray), .bool false, .int .i64 0, .slice none 0 0] : List Value))) (vs := (([.int .i64 a0_ID, .string a0_Name, .string a0_Data, .bool a0_Sealed, .int .i64 a0_Until, .slice A26 y25.length cp27] : List Value))) (L' := (([.int .i64 a0_ID, .string a0_Name, .string a0_Data, .bool a0_Sealed, .int .i64 a0_Until, .slice A26 y25.length cp27] : List Value))) (by kernel_rfl) ty24 hI (by kernel_rfl) (by kernel_rfl) (by kernel_rfl) (by kernel_rfl) (by kernel_rfl) ?_)
            intro w hI
            refine OpsT.pures (r := []) [2] [4, 5] (S' := [(4, .pointer (some ⟨b2, 0, none⟩)), (5, .int .i64 0)]) (by kernel_rfl) ?_
            refine OpsT.done ?_
            refine Qn.then ?_
            refine CodT.ret ?_
            have hI := hI.mono (pick3 _ _ _ _)
            obtain ⟨Z28, hle29, hr30, hI⟩ := ownS_freeze hI
            have hL31 := (ldBN ty24 (l := (([.int .i64 a0_ID, .string a0_Name, .string a0_Data, .bool a0_Sealed, .int .i64 a0_Until, .slice A26 y25.length cp27] : List Value))) (o := 0) (cs := (([.int .i64 a0_ID, .string a0_Name, .string a0_Data, .bool a0_Sealed, .int .i64 a0_Until, .slice A26 y25.length cp27] : List Value))) (ent_refl _) (by kernel_rfl) (whole _ _ (by kernel_rfl))) w hI
            have hI := hI.drop
            have hI := hI.drop
            have e := someS h0
            subst e
            refine Qn.keep [4, 5] (S' := [(4, .pointer (some ⟨b2, 0, none⟩)), (5, .int .i64 0)]) (by kernel_rfl) ?_
            exact post_ret (v := .tuple #[.agg ((([.int .i64 a0_ID, .string a0_Name, .string a0_Data, .bool a0_Sealed, .int .i64 a0_Until, .slice A26 y25.length cp27] : List Value))).toArray, .int .i64 0]) (fun a ha => RunRes.run (vs := [.agg ((([.int .i64 a0_ID, .string a0_Name, .string a0_Data, .bool a0_Sealed, .int .i64 a0_Until, .slice A26 y25.length cp27] : List Value))).toArray, .int .i64 0]) (.cell (t := 4) (T := 24) (ad := ⟨b2, 0, none⟩) (by kernel_rfl) hL31 (.tmp (t := 5) (by kernel_rfl) .nil)) ha (by kernel_rfl)) ⟨A26, cp27, Z28, hle29, rfl, hr30, hI⟩
/-- slices.Delete[[]string,string] -/
theorem c61 (w0 w : World) (Z : Hp) (A : HP) (hT : Tabs Z) (A_a0 : Option Addr) (c_a0 : Nat) (a0 : List ByteArray) (a1 : Int) (a2 : Int) (hI : Inv w0 Z w (star (ownS 9 cS 1 A_a0 c_a0 a0) A)) (r : List ByteArray) (h0 : delS a0 a1 a2 = some r) :
    Calls prog 61 #[.slice A_a0 a0.length c_a0, .int .i64 a1, .int .i64 a2] w (fun e w' => ∃ (A1 : Option Addr) (c1 : Nat), e = .returned (.slice A1 r.length c1) ∧ Inv w0 Z w' (star (ownS 9 cS 1 A1 c1 r) A)) :=
  del_str lay24 rfl w0 w Z A A_a0 c_a0 a0 a1 a2 hI r h0
set_option maxRecDepth 100000 in
set_option maxHeartbeats 4000000 in
/-- cenotaph/rule.Release -/
theorem c45 (w0 w : World) (Z : Hp) (A : HP) (hI : Inv w0 Z w A) (hT : Tabs Z) (a0_ID : Int) (a0_Name : ByteArray) (a0_Data : ByteArray) (a0_Sealed : Bool) (a0_Until : Int) (A_a0_Holds : Option Addr) (c_a0_Holds : Nat) (a0_Holds : (List ByteArray)) (hr_a0_Holds : RdS Z cS 1 A_a0_Holds c_a0_Holds a0_Holds) (a1 : ByteArray) (r : (Int × ByteArray × ByteArray × Bool × Int × (List ByteArray) × Int)) (h0 : rule_Release a0_ID a0_Name a0_Data a0_Sealed a0_Until a0_Holds a1 = some r) :
    Calls prog 45 #[.agg ((([.int .i64 a0_ID, .string a0_Name, .string a0_Data, .bool a0_Sealed, .int .i64 a0_Until, .slice A_a0_Holds a0_Holds.length c_a0_Holds] : List Value))).toArray, .string a1] w (fun e w' => ∃ (A1 : Option Addr) (c1 : Nat) (Z' : Hp), Z.le Z' ∧ e = .returned (.tuple #[.agg ((([.int .i64 r.1, .string r.2.1, .string r.2.2.1, .bool r.2.2.2.1, .int .i64 r.2.2.2.2.1, .slice A1 r.2.2.2.2.2.1.length c1] : List Value))).toArray, .int .i64 r.2.2.2.2.2.2]) ∧ RdS Z' cS 1 A1 c1 r.2.2.2.2.2.1 ∧ Inv w0 Z' w' A) := by
  have e4 := calls_intro (R := (fun e w' => ∃ (A1 : Option Addr) (c1 : Nat) (Z' : Hp), Z.le Z' ∧ e = .returned (.tuple #[.agg ((([.int .i64 r.1, .string r.2.1, .string r.2.2.1, .bool r.2.2.2.1, .int .i64 r.2.2.2.2.1, .slice A1 r.2.2.2.2.2.1.length c1] : List Value))).toArray, .int .i64 r.2.2.2.2.2.2]) ∧ RdS Z' cS 1 A1 c1 r.2.2.2.2.2.1 ∧ Inv w0 Z' w' A)) (w := w) (args := [.agg ((([.int .i64 a0_ID, .string a0_Name, .string a0_Data, .bool a0_Sealed, .int .i64 a0_Until, .slice A_a0_Holds a0_Holds.length c_a0_Holds] : List Value))).toArray, .string a1]) (fn := Go.Proofs.Tryd.f45) 23 Go.Proofs.Tryd.func45 (by rfl) Go.Proofs.Tryd.ntmps45 (by kernel_rfl)
  refine e4 ?_
  clear e4
  unfold rule_Release at h0
  refine CodT.seq ?_
  refine CodT.regionL [0, 1, 2] (by kernel_rfl) ?_
  refine OpsT.cons (Does.boxL (d := 2) (T := 24) (v := .agg ((([.int .i64 a0_ID, .string a0_Name, .string a0_Data, .bool a0_Sealed, .int .i64 a0_Until, .slice A_a0_Holds a0_Holds.length c_a0_Holds] : List Value))).toArray) ((([.int .i64 a0_ID, .string a0_Name, .string a0_Data, .bool a0_Sealed, .int .i64 a0_Until, .slice A_a0_Holds a0_Holds.length c_a0_Holds] : List Value))) (by kernel_rfl) hI (by kernel_rfl) ?_)
  intro b1 w hI
  refine OpsT.cons (Does.allocL (d := 4) (T := 24) ((([.int .i64 0, .string (⟨#[]⟩ : ByteArray), .string (⟨#[]⟩ : ByteArray), .bool false, .int .i64 0, .slice none 0 0] : List Value))) (by kernel_rfl) ty24 hI (by kernel_rfl) ?_)
  intro b2 w hI
  refine OpsT.pures (r := []) [2] [1, 2, 4] (S' := [(1, .string a1), (2, .pointer (some ⟨b1, 0, none⟩)), (4, .pointer (some ⟨b2, 0, none⟩))]) (by kernel_rfl) ?_
  refine OpsT.done ?_
  refine Qn.then ?_
  refine CodT.seq ?_
  refine CodT.regionL [0, 1, 2, 3, 4] (by kernel_rfl) ?_
  refine OpsT.pures (r := [1, 2, 3, 4]) [0] [1, 2, 4, 7] (S' := [(1, .string a1), (2, .pointer (some ⟨b1, 0, none⟩)), (4, .pointer (some ⟨b2, 0, none⟩)), (7, .pointer (some ⟨b1, 5, none⟩))]) (by kernel_rfl) ?_
  refine OpsT.cons (Does.yi (Yl.load (d := 8) (T := 22) (v := .slice A_a0_Holds a0_Holds.length c_a0_Holds) (by kernel_rfl) (ldB ty22 (l := (([.int .i64 a0_ID, .string a0_Name, .string a0_Data, .bool a0_Sealed, .int .i64 a0_Until, .slice A_a0_Holds a0_Holds.length c_a0_Holds] : List Value))) (o := 5) (v := .slice A_a0_Holds a0_Holds.length c_a0_Holds) (pick2 _ _ _) (by kernel_rfl))) hI ?_)
  refine OpsT.pures (r := [3, 4]) [2] [2, 4, 8, 9] (S' := [(2, .pointer (some ⟨b1, 0, none⟩)), (4, .pointer (some ⟨b2, 0, none⟩)), (8, .slice A_a0_Holds a0_Holds.length c_a0_Holds), (9, .string a1)]) (by kernel_rfl) ?_
  obtain ⟨y4, hc3, h0⟩ := bindS h0
  try dsimp only at h0
  refine OpsT.cons (Does.call (d := some 10) (n := 60) (vs := [.slice A_a0_Holds a0_Holds.length c_a0_Holds, .string a1]) (by kernel_rfl) en60 (c60 w0 w _ _ hI hT A_a0_Holds c_a0_Holds a0_Holds hr_a0_Holds a1 _ hc3) ?_)
  rintro e w ⟨rfl, hI⟩
  refine ⟨_, rfl, ?_⟩
  refine OpsT.pures (r := []) [4] [2, 4, 6] (S' := [(2, .pointer (some ⟨b1, 0, none⟩)), (4, .pointer (some ⟨b2, 0, none⟩)), (6, .int .i64 y4)]) (by kernel_rfl) ?_
  refine OpsT.done ?_
  refine Qn.then ?_
  refine CodT.seq ?_
  refine CodT.seq ?_
  refine CodT.regionL [0, 1] (by kernel_rfl) ?_
  refine OpsT.pures (r := []) [0, 1] [2, 4, 6, 12] (S' := [(2, .pointer (some ⟨b1, 0, none⟩)), (4, .pointer (some ⟨b2, 0, none⟩)), (6, .int .i64 y4), (12, .bool (decide (y4 < 0)))]) (by kernel_rfl) ?_
  refine OpsT.done ?_
  refine Qn.then ?_
  by_cases hb5 : (decide (y4 < 0)) = true
  · rw [if_pos hb5] at h0
    refine CodT.yes' (b := decide (y4 < 0)) (by kernel_rfl) hb5 ?_
    refine CodT.seq ?_
    refine CodT.regionL [0, 1, 2] (by kernel_rfl) ?_
    refine OpsT.cons (Does.yi (Yl.load (d := 13) (T := 24) (v := .agg ((([.int .i64 a0_ID, .string a0_Name, .string a0_Data, .bool a0_Sealed, .int .i64 a0_Until, .slice A_a0_Holds a0_Holds.length c_a0_Holds] : List Value))).toArray) (by kernel_rfl) (ldBN ty24 (l := (([.int .i64 a0_ID, .string a0_Name, .string a0_Data, .bool a0_Sealed, .int .i64 a0_Until, .slice A_a0_Holds a0_Holds.length c_a0_Holds] : List Value))) (o := 0) (cs := (([.int .i64 a0_ID, .string a0_Name, .string a0_Data, .bool a0_Sealed, .int .i64 a0_Until, .slice A_a0_Holds a0_Holds.length c_a0_Holds] : List Value))) (pick2 _ _ _) (by kernel_rfl) (whole _ _ (by kernel_rfl)))) hI ?_)
    refine OpsT.cons (Does.storeLit (T := 24) (b := b2) (o := 0) (v := .agg ((([.int .i64 a0_ID, .string a0_Name, .string a0_Data, .bool a0_Sealed, .int .i64 a0_Until, .slice A_a0_Holds a0_Holds.length c_a0_Holds] : List Value))).toArray) (l := (([.int .i64 0, .string (⟨#[]⟩ : ByteArray), .string (⟨#[]⟩ : ByteArray), .bool false, .int .i64 0, .slice none 0 0] : List Value))) (vs := (([.int .i64 a0_ID, .string a0_Name, .string a0_Data, .bool a0_Sealed, .int .i64 a0_Until, .slice A_a0_Holds a0_Holds.length c_a0_Holds] : List Value))) (L' := (([.int .i64 a0_ID, .string a0_Name, .string a0_Data, .bool a0_Sealed, .int .i64 a0_Until, .slice A_a0_Holds a0_Holds.length c_a0_Holds] : List Value))) (by kernel_rfl) ty24 hI (by kernel_rfl) (by kernel_rfl) (by kernel_rfl) (by kernel_rfl) (by kernel_rfl) ?_)
    intro w hI
    refine OpsT.pures (r := []) [2] [4, 5] (S' := [(4, .pointer (some ⟨b2, 0, none⟩)), (5, .int .i64 3)]) (by kernel_rfl) ?_
    refine OpsT.done ?_
    refine Qn.then ?_
    refine CodT.ret ?_
    refine Qn.ret_then ?_
    have hL6 := (ldBN ty24 (l := (([.int .i64 a0_ID, .string a0_Name, .string a0_Data, .bool a0_Sealed, .int .i64 a0_Until, .slice A_a0_Holds a0_Holds.length c_a0_Holds] : List Value))) (o := 0) (cs := (([.int .i64 a0_ID, .string a0_Name, .string a0_Data, .bool a0_Sealed, .int .i64 a0_Until, .slice A_a0_Holds a0_Holds.length c_a0_Holds] : List Value))) (ent_refl _) (by kernel_rfl) (whole _ _ (by kernel_rfl))) w hI
    have hI := hI.drop
    have hI := hI.drop
    have e := someS h0
    subst e
    refine Qn.keep [4, 5] (S' := [(4, .pointer (some ⟨b2, 0, none⟩)), (5, .int .i64 3)]) (by kernel_rfl) ?_
    exact post_ret (v := .tuple #[.agg ((([.int .i64 a0_ID, .string a0_Name, .string a0_Data, .bool a0_Sealed, .int .i64 a0_Until, .slice A_a0_Holds a0_Holds.length c_a0_Holds] : List Value))).toArray, .int .i64 3]) (fun a ha => RunRes.run (vs := [.agg ((([.int .i64 a0_ID, .string a0_Name, .string a0_Data, .bool a0_Sealed, .int .i64 a0_Until, .slice A_a0_Holds a0_Holds.length c_a0_Holds] : List Value))).toArray, .int .i64 3]) (.cell (t := 4) (T := 24) (ad := ⟨b2, 0, none⟩) (by kernel_rfl) hL6 (.tmp (t := 5) (by kernel_rfl) .nil)) ha (by kernel_rfl)) ⟨A_a0_Holds, c_a0_Holds, Z, Hp.le_refl _, rfl, hr_a0_Holds, hI⟩
  · rw [if_neg hb5] at h0
    refine CodT.no' (b := decide (y4 < 0)) (by kernel_rfl) (by simpa using hb5) ?_
    refine CodT.skip ?_
    refine Qn.then ?_
    refine CodT.seq ?_
    refine CodT.regionL [0, 1, 2, 3, 4, 5, 6, 7, 8] (by kernel_rfl) ?_
    refine OpsT.pures (r := [1, 2, 3, 4, 5, 6, 7, 8]) [0] [2, 4, 6, 14] (S' := [(2, .pointer (some ⟨b1, 0, none⟩)), (4, .pointer (some ⟨b2, 0, none⟩)), (6, .int .i64 y4), (14, .pointer (some ⟨b1, 5, none⟩))]) (by kernel_rfl) ?_
    refine OpsT.cons (Does.yi (Yl.load (d := 15) (T := 22) (v := .slice A_a0_Holds a0_Holds.length c_a0_Holds) (by kernel_rfl) (ldB ty22 (l := (([.int .i64 a0_ID, .string a0_Name, .string a0_Data, .bool a0_Sealed, .int .i64 a0_Until, .slice A_a0_Holds a0_Holds.length c_a0_Holds] : List Value))) (o := 5) (v := .slice A_a0_Holds a0_Holds.length c_a0_Holds) (pick2 _ _ _) (by kernel_rfl))) hI ?_)
    obtain ⟨y8, hc7, h0⟩ := bindS h0
    try dsimp only at h0
    refine OpsT.cons (Does.call (d := some 16) (n := 59) (vs := [.slice A_a0_Holds a0_Holds.length c_a0_Holds]) (by kernel_rfl) en59 (c59 w0 w _ _ hI hT A_a0_Holds c_a0_Holds a0_Holds hr_a0_Holds _ hc7) ?_)
    rintro e w ⟨A9, cp10, rfl, hI⟩
    refine ⟨_, rfl, ?_⟩
    refine OpsT.pures (r := [6, 7, 8]) [3, 4, 5] [2, 4, 16, 17, 19] (S' := [(2, .pointer (some ⟨b1, 0, none⟩)), (4, .pointer (some ⟨b2, 0, none⟩)), (16, .slice A9 y8.length cp10), (17, .int .i64 y4), (19, .int .i64 (wi64 (y4 + 1)))]) (by kernel_rfl) ?_
    obtain ⟨y12, hc11, h0⟩ := bindS h0
    try dsimp only at h0
    refine OpsT.cons (Does.call (d := some 20) (n := 61) (vs := [.slice A9 y8.length cp10, .int .i64 y4, .int .i64 (wi64 (y4 + 1))]) (by kernel_rfl) en61 (c61 w0 w _ _ hT A9 cp10 y8 y4 (wi64 (y4 + 1)) hI _ hc11) ?_)
    rintro e w ⟨A13, cp14, rfl, hI⟩
    refine ⟨_, rfl, ?_⟩
    refine OpsT.pures (r := [8]) [7] [2, 4, 20, 21] (S' := [(2, .pointer (some ⟨b1, 0, none⟩)), (4, .pointer (some ⟨b2, 0, none⟩)), (20, .slice A13 y12.length cp14), (21, .pointer (some ⟨b1, 5, none⟩))]) (by kernel_rfl) ?_
    have hI := hI.mono (pick3 _ _ _ _)
    refine OpsT.cons (Does.storeLit (T := 22) (b := b1) (o := 5) (v := .slice A13 y12.length cp14) (l := (([.int .i64 a0_ID, .string a0_Name, .string a0_Data, .bool a0_Sealed, .int .i64 a0_Until, .slice A_a0_Holds a0_Holds.length c_a0_Holds] : List Value))) (vs := ([.slice A13 y12.length cp14] : List Value)) (L' := (([.int .i64 a0_ID, .string a0_Name, .string a0_Data, .bool a0_Sealed, .int .i64 a0_Until, .slice A13 y12.length cp14] : List Value))) (by kernel_rfl) ty22 hI (by kernel_rfl) (by kernel_rfl) (by kernel_rfl) (by kernel_rfl) (by kernel_rfl) ?_)
    intro w hI
    refine OpsT.done ?_
    refine Qn.then ?_
    refine CodT.seq ?_
    refine CodT.regionL [0, 1, 2] (by kernel_rfl) ?_
    refine OpsT.cons (Does.yi (Yl.load (d := 22) (T := 24) (v := .agg ((([.int .i64 a0_ID, .string a0_Name, .string a0_Data, .bool a0_Sealed, .int .i64 a0_Until, .slice A13 y12.length cp14] : List Value))).toArray) (by kernel_rfl) (ldBN ty24 (l := (([.int .i64 a0_ID, .string a0_Name, .string a0_Data, .bool a0_Sealed, .int .i64 a0_Until, .slice A13 y12.length cp14] : List Value))) (o := 0) (cs := (([.int .i64 a0_ID, .string a0_Name, .string a0_Data, .bool a0_Sealed, .int .i64 a0_Until, .slice A13 y12.length cp14] : List Value))) (ent_refl _) (by kernel_rfl) (whole _ _ (by kernel_rfl)))) hI ?_)
    have hI := hI.mono (pick3 _ _ _ _)
    refine OpsT.cons (Does.storeLit (T := 24) (b := b2) (o := 0) (v := .agg ((([.int .i64 a0_ID, .string a0_Name, .string a0_Data, .bool a0_Sealed, .int .i64 a0_Until, .slice A13 y12.length cp14] : List Value))).toArray) (l := (([.int .i64 0, .string (⟨#[]⟩ : ByteArray), .string (⟨#[]⟩ : ByteArray), .bool false, .int .i64 0, .slice none 0 0] : List Value))) (vs := (([.int .i64 a0_ID, .string a0_Name, .string a0_Data, .bool a0_Sealed, .int .i64 a0_Until, .slice A13 y12.length cp14] : List Value))) (L' := (([.int .i64 a0_ID, .string a0_Name, .string a0_Data, .bool a0_Sealed, .int .i64 a0_Until, .slice A13 y12.length cp14] : List Value))) (by kernel_rfl) ty24 hI (by kernel_rfl) (by kernel_rfl) (by kernel_rfl) (by kernel_rfl) (by kernel_rfl) ?_)
    intro w hI
    refine OpsT.pures (r := []) [2] [4, 5] (S' := [(4, .pointer (some ⟨b2, 0, none⟩)), (5, .int .i64 0)]) (by kernel_rfl) ?_
    refine OpsT.done ?_
    refine Qn.then ?_
    refine CodT.ret ?_
    have hI := hI.mono (pick3 _ _ _ _)
    obtain ⟨Z15, hle16, hr17, hI⟩ := ownS_freeze hI
    have hL18 := (ldBN ty24 (l := (([.int .i64 a0_ID, .string a0_Name, .string a0_Data, .bool a0_Sealed, .int .i64 a0_Until, .slice A13 y12.length cp14] : List Value))) (o := 0) (cs := (([.int .i64 a0_ID, .string a0_Name, .string a0_Data, .bool a0_Sealed, .int .i64 a0_Until, .slice A13 y12.length cp14] : List Value))) (ent_refl _) (by kernel_rfl) (whole _ _ (by kernel_rfl))) w hI
    have hI := hI.drop
    have hI := hI.drop
    have e := someS h0
    subst e
    refine Qn.keep [4, 5] (S' := [(4, .pointer (some ⟨b2, 0, none⟩)), (5, .int .i64 0)]) (by kernel_rfl) ?_
    exact post_ret (v := .tuple #[.agg ((([.int .i64 a0_ID, .string a0_Name, .string a0_Data, .bool a0_Sealed, .int .i64 a0_Until, .slice A13 y12.length cp14] : List Value))).toArray, .int .i64 0]) (fun a ha => RunRes.run (vs := [.agg ((([.int .i64 a0_ID, .string a0_Name, .string a0_Data, .bool a0_Sealed, .int .i64 a0_Until, .slice A13 y12.length cp14] : List Value))).toArray, .int .i64 0]) (.cell (t := 4) (T := 24) (ad := ⟨b2, 0, none⟩) (by kernel_rfl) hL18 (.tmp (t := 5) (by kernel_rfl) .nil)) ha (by kernel_rfl)) ⟨A13, cp14, Z15, hle16, rfl, hr17, hI⟩
set_option maxRecDepth 100000 in
set_option maxHeartbeats 4000000 in
/-- cenotaph/rule.timely -/
theorem c62 (w0 w : World) (Z : Hp) (A : HP) (hI : Inv w0 Z w A) (hT : Tabs Z) (a0 : Int) (r : Bool) (h0 : rule_timely a0 = some r) :
    Calls prog 62 #[.int .i64 a0] w (fun e w' => e = .returned (.bool r) ∧ Inv w0 Z w' A) := by
  have e4 := calls_intro (R := (fun e w' => e = .returned (.bool r) ∧ Inv w0 Z w' A)) (w := w) (args := [.int .i64 a0]) (fn := Go.Proofs.Tryd.f62) 9 Go.Proofs.Tryd.func62 (by rfl) Go.Proofs.Tryd.ntmps62 (by kernel_rfl)
  refine e4 ?_
  clear e4
  unfold rule_timely at h0
  refine CodT.seq ?_
  refine CodT.regionL [0] (by kernel_rfl) ?_
  refine OpsT.pures (r := []) [0] [0] (S' := [(0, .int .i64 a0)]) (by kernel_rfl) ?_
  refine OpsT.done ?_
  refine Qn.then ?_
  obtain ⟨r1, h1, h0⟩ := bindS h0
  refine CodT.meet (fun a w => ∃ (x1 : Bool), x1 = r1 ∧ Fr 9 [(2, .bool x1)] a ∧ Inv w0 Z w A) ?_ ?_
  ·
    refine CodT.regionL [0, 1, 2, 3, 4, 5, 6] (by kernel_rfl) ?_
    refine OpsT.pures (r := [3, 4, 5, 6]) [0, 1, 2] [0, 5] (S' := [(0, .int .i64 a0), (5, .bool (decide (a0 ≥ 0)))]) (by kernel_rfl) ?_
    by_cases hb2 : (decide (a0 ≥ 0)) = true
    · rw [if_pos hb2] at h1
      refine OpsT.keep [0, 5] (S' := [(0, .int .i64 a0), (5, .bool true)]) (by (try simp only [hb2]); kernel_rfl) ?_
      refine OpsT.pures (r := []) [3, 4, 5, 6] [2] (S' := [(2, .bool (decide (a0 ≤ 1099511627776)))]) (by kernel_rfl) ?_
      refine OpsT.done ?_
      have e := someS h1
      subst e
      exact Qn.thenJ fun a ha => ⟨decide (a0 ≤ 1099511627776), rfl, ha.keep [2] (by kernel_rfl), hI⟩
    · rw [if_neg hb2] at h1
      have hb2 : (decide (a0 ≥ 0)) = false := by simpa using hb2
      refine OpsT.keep [0, 5] (S' := [(0, .int .i64 a0), (5, .bool false)]) (by (try simp only [hb2]); kernel_rfl) ?_
      refine OpsT.pures (r := []) [3, 4, 5, 6] [2] (S' := [(2, .bool false)]) (by kernel_rfl) ?_
      refine OpsT.done ?_
      have e := someS h1
      subst e
      exact Qn.thenJ fun a ha => ⟨false, rfl, ha.keep [2] (by kernel_rfl), hI⟩
  ·
    rintro a w ⟨x1, rfl, ha, hI⟩
    try dsimp only at h0
    refine CodT.of ?_ ha
    refine CodT.ret ?_
    have e := someS h0
    subst e
    refine Qn.keep [2] (S' := [(2, .bool x1)]) (by kernel_rfl) ?_
    exact post_ret (v := .bool x1) (fun a ha => RunRes.run (vs := [.bool x1]) (.tmp (t := 2) (by kernel_rfl) .nil) ha (by kernel_rfl)) ⟨rfl, hI⟩
set_option maxRecDepth 100000 in
set_option maxHeartbeats 4000000 in
/-- cenotaph/rule.Seal -/
theorem c46 (w0 w : World) (Z : Hp) (A : HP) (hI : Inv w0 Z w A) (hT : Tabs Z) (a0_ID : Int) (a0_Name : ByteArray) (a0_Data : ByteArray) (a0_Sealed : Bool) (a0_Until : Int) (A_a0_Holds : Option Addr) (c_a0_Holds : Nat) (a0_Holds : (List ByteArray)) (hr_a0_Holds : RdS Z cS 1 A_a0_Holds c_a0_Holds a0_Holds) (a1 : Int) (r : (Int × ByteArray × ByteArray × Bool × Int × (List ByteArray) × Int)) (h0 : rule_Seal a0_ID a0_Name a0_Data a0_Sealed a0_Until a0_Holds a1 = some r) :
    Calls prog 46 #[.agg ((([.int .i64 a0_ID, .string a0_Name, .string a0_Data, .bool a0_Sealed, .int .i64 a0_Until, .slice A_a0_Holds a0_Holds.length c_a0_Holds] : List Value))).toArray, .int .i64 a1] w (fun e w' => ∃ (A1 : Option Addr) (c1 : Nat) (Z' : Hp), Z.le Z' ∧ e = .returned (.tuple #[.agg ((([.int .i64 r.1, .string r.2.1, .string r.2.2.1, .bool r.2.2.2.1, .int .i64 r.2.2.2.2.1, .slice A1 r.2.2.2.2.2.1.length c1] : List Value))).toArray, .int .i64 r.2.2.2.2.2.2]) ∧ RdS Z' cS 1 A1 c1 r.2.2.2.2.2.1 ∧ Inv w0 Z' w' A) := by
  have e4 := calls_intro (R := (fun e w' => ∃ (A1 : Option Addr) (c1 : Nat) (Z' : Hp), Z.le Z' ∧ e = .returned (.tuple #[.agg ((([.int .i64 r.1, .string r.2.1, .string r.2.2.1, .bool r.2.2.2.1, .int .i64 r.2.2.2.2.1, .slice A1 r.2.2.2.2.2.1.length c1] : List Value))).toArray, .int .i64 r.2.2.2.2.2.2]) ∧ RdS Z' cS 1 A1 c1 r.2.2.2.2.2.1 ∧ Inv w0 Z' w' A)) (w := w) (args := [.agg ((([.int .i64 a0_ID, .string a0_Name, .string a0_Data, .bool a0_Sealed, .int .i64 a0_Until, .slice A_a0_Holds a0_Holds.length c_a0_Holds] : List Value))).toArray, .int .i64 a1]) (fn := Go.Proofs.Tryd.f46) 19 Go.Proofs.Tryd.func46 (by rfl) Go.Proofs.Tryd.ntmps46 (by kernel_rfl)
  refine e4 ?_
  clear e4
  unfold rule_Seal at h0
  refine CodT.seq ?_
  refine CodT.regionL [0, 1, 2] (by kernel_rfl) ?_
  refine OpsT.cons (Does.boxL (d := 2) (T := 24) (v := .agg ((([.int .i64 a0_ID, .string a0_Name, .string a0_Data, .bool a0_Sealed, .int .i64 a0_Until, .slice A_a0_Holds a0_Holds.length c_a0_Holds] : List Value))).toArray) ((([.int .i64 a0_ID, .string a0_Name, .string a0_Data, .bool a0_Sealed, .int .i64 a0_Until, .slice A_a0_Holds a0_Holds.length c_a0_Holds] : List Value))) (by kernel_rfl) hI (by kernel_rfl) ?_)
  intro b1 w hI
  refine OpsT.cons (Does.allocL (d := 4) (T := 24) ((([.int .i64 0, .string (⟨#[]⟩ : ByteArray), .string (⟨#[]⟩ : ByteArray), .bool false, .int .i64 0, .slice none 0 0] : List Value))) (by kernel_rfl) ty24 hI (by kernel_rfl) ?_)
  intro b2 w hI
  refine OpsT.pures (r := []) [2] [1, 2, 4] (S' := [(1, .int .i64 a1), (2, .pointer (some ⟨b1, 0, none⟩)), (4, .pointer (some ⟨b2, 0, none⟩))]) (by kernel_rfl) ?_
  refine OpsT.done ?_
  refine Qn.then ?_
  refine CodT.seq ?_
  refine CodT.block ?_
  refine CodT.seq ?_
  refine CodT.regionL [0, 1, 2] (by kernel_rfl) ?_
  refine OpsT.pures (r := [1, 2]) [0] [1, 2, 4, 7] (S' := [(1, .int .i64 a1), (2, .pointer (some ⟨b1, 0, none⟩)), (4, .pointer (some ⟨b2, 0, none⟩)), (7, .pointer (some ⟨b1, 3, none⟩))]) (by kernel_rfl) ?_
  refine OpsT.cons (Does.yi (Yl.load (d := 8) (T := 4) (v := .bool a0_Sealed) (by kernel_rfl) (ldB ty4 (l := (([.int .i64 a0_ID, .string a0_Name, .string a0_Data, .bool a0_Sealed, .int .i64 a0_Until, .slice A_a0_Holds a0_Holds.length c_a0_Holds] : List Value))) (o := 3) (v := .bool a0_Sealed) (pick2 _ _ _) (by kernel_rfl))) hI ?_)
  refine OpsT.pures (r := []) [2] [1, 2, 4, 6] (S' := [(1, .int .i64 a1), (2, .pointer (some ⟨b1, 0, none⟩)), (4, .pointer (some ⟨b2, 0, none⟩)), (6, .bool a0_Sealed)]) (by kernel_rfl) ?_
  refine OpsT.done ?_
  refine Qn.then ?_
  by_cases hb3 : a0_Sealed = true
  · rw [if_pos hb3] at h0
    refine CodT.yes' (b := a0_Sealed) (by kernel_rfl) hb3 ?_
    refine CodT.seq ?_
    refine CodT.regionL [0, 1, 2] (by kernel_rfl) ?_
    refine OpsT.cons (Does.yi (Yl.load (d := 9) (T := 24) (v := .agg ((([.int .i64 a0_ID, .string a0_Name, .string a0_Data, .bool a0_Sealed, .int .i64 a0_Until, .slice A_a0_Holds a0_Holds.length c_a0_Holds] : List Value))).toArray) (by kernel_rfl) (ldBN ty24 (l := (([.int .i64 a0_ID, .string a0_Name, .string a0_Data, .bool a0_Sealed, .int .i64 a0_Until, .slice A_a0_Holds a0_Holds.length c_a0_Holds] : List Value))) (o := 0) (cs := (([.int .i64 a0_ID, .string a0_Name, .string a0_Data, .bool a0_Sealed, .int .i64 a0_Until, .slice A_a0_Holds a0_Holds.length c_a0_Holds] : List Value))) (pick2 _ _ _) (by kernel_rfl) (whole _ _ (by kernel_rfl)))) hI ?_)
    refine OpsT.cons (Does.storeLit (T := 24) (b := b2) (o := 0) (v := .agg ((([.int .i64 a0_ID, .string a0_Name, .string a0_Data, .bool a0_Sealed, .int .i64 a0_Until, .slice A_a0_Holds a0_Holds.length c_a0_Holds] : List Value))).toArray) (l := (([.int .i64 0, .string (⟨#[]⟩ : ByteArray), .string (⟨#[]⟩ : ByteArray), .bool false, .int .i64 0, .slice none 0 0] : List Value))) (vs := (([.int .i64 a0_ID, .string a0_Name, .string a0_Data, .bool a0_Sealed, .int .i64 a0_Until, .slice A_a0_Holds a0_Holds.length c_a0_Holds] : List Value))) (L' := (([.int .i64 a0_ID, .string a0_Name, .string a0_Data, .bool a0_Sealed, .int .i64 a0_Until, .slice A_a0_Holds a0_Holds.length c_a0_Holds] : List Value))) (by kernel_rfl) ty24 hI (by kernel_rfl) (by kernel_rfl) (by kernel_rfl) (by kernel_rfl) (by kernel_rfl) ?_)
    intro w hI
    refine OpsT.pures (r := []) [2] [4, 5] (S' := [(4, .pointer (some ⟨b2, 0, none⟩)), (5, .int .i64 5)]) (by kernel_rfl) ?_
    refine OpsT.done ?_
    refine Qn.then ?_
    refine CodT.ret ?_
    refine Qn.block_ret ?_
    refine Qn.ret_then ?_
    have hL4 := (ldBN ty24 (l := (([.int .i64 a0_ID, .string a0_Name, .string a0_Data, .bool a0_Sealed, .int .i64 a0_Until, .slice A_a0_Holds a0_Holds.length c_a0_Holds] : List Value))) (o := 0) (cs := (([.int .i64 a0_ID, .string a0_Name, .string a0_Data, .bool a0_Sealed, .int .i64 a0_Until, .slice A_a0_Holds a0_Holds.length c_a0_Holds] : List Value))) (ent_refl _) (by kernel_rfl) (whole _ _ (by kernel_rfl))) w hI
    have hI := hI.drop
    have hI := hI.drop
    have e := someS h0
    subst e
    refine Qn.keep [4, 5] (S' := [(4, .pointer (some ⟨b2, 0, none⟩)), (5, .int .i64 5)]) (by kernel_rfl) ?_
    exact post_ret (v := .tuple #[.agg ((([.int .i64 a0_ID, .string a0_Name, .string a0_Data, .bool a0_Sealed, .int .i64 a0_Until, .slice A_a0_Holds a0_Holds.length c_a0_Holds] : List Value))).toArray, .int .i64 5]) (fun a ha => RunRes.run (vs := [.agg ((([.int .i64 a0_ID, .string a0_Name, .string a0_Data, .bool a0_Sealed, .int .i64 a0_Until, .slice A_a0_Holds a0_Holds.length c_a0_Holds] : List Value))).toArray, .int .i64 5]) (.cell (t := 4) (T := 24) (ad := ⟨b2, 0, none⟩) (by kernel_rfl) hL4 (.tmp (t := 5) (by kernel_rfl) .nil)) ha (by kernel_rfl)) ⟨A_a0_Holds, c_a0_Holds, Z, Hp.le_refl _, rfl, hr_a0_Holds, hI⟩
  · rw [if_neg hb3] at h0
    refine CodT.no' (b := a0_Sealed) (by kernel_rfl) (by simpa using hb3) ?_
    refine CodT.seq ?_
    refine CodT.regionL [0, 1, 2, 3] (by kernel_rfl) ?_
    refine OpsT.pures (r := [1, 2, 3]) [0] [1, 2, 4, 11] (S' := [(1, .int .i64 a1), (2, .pointer (some ⟨b1, 0, none⟩)), (4, .pointer (some ⟨b2, 0, none⟩)), (11, .int .i64 a1)]) (by kernel_rfl) ?_
    obtain ⟨y6, hc5, h0⟩ := bindS h0
    try dsimp only at h0
    refine OpsT.cons (Does.call (d := some 12) (n := 62) (vs := [.int .i64 a1]) (by kernel_rfl) en62 (c62 w0 w _ _ hI hT a1 _ hc5) ?_)
    rintro e w ⟨rfl, hI⟩
    refine ⟨_, rfl, ?_⟩
    refine OpsT.pures (r := []) [2, 3] [1, 2, 4, 10] (S' := [(1, .int .i64 a1), (2, .pointer (some ⟨b1, 0, none⟩)), (4, .pointer (some ⟨b2, 0, none⟩)), (10, .bool (!y6))]) (by kernel_rfl) ?_
    refine OpsT.done ?_
    refine Qn.then ?_
    by_cases hb7 : (!y6) = true
    · rw [if_pos hb7] at h0
      refine CodT.yes' (b := !y6) (by kernel_rfl) hb7 ?_
      refine CodT.seq ?_
      refine CodT.regionL [0, 1, 2] (by kernel_rfl) ?_
      refine OpsT.cons (Does.yi (Yl.load (d := 14) (T := 24) (v := .agg ((([.int .i64 a0_ID, .string a0_Name, .string a0_Data, .bool a0_Sealed, .int .i64 a0_Until, .slice A_a0_Holds a0_Holds.length c_a0_Holds] : List Value))).toArray) (by kernel_rfl) (ldBN ty24 (l := (([.int .i64 a0_ID, .string a0_Name, .string a0_Data, .bool a0_Sealed, .int .i64 a0_Until, .slice A_a0_Holds a0_Holds.length c_a0_Holds] : List Value))) (o := 0) (cs := (([.int .i64 a0_ID, .string a0_Name, .string a0_Data, .bool a0_Sealed, .int .i64 a0_Until, .slice A_a0_Holds a0_Holds.length c_a0_Holds] : List Value))) (pick2 _ _ _) (by kernel_rfl) (whole _ _ (by kernel_rfl)))) hI ?_)
      refine OpsT.cons (Does.storeLit (T := 24) (b := b2) (o := 0) (v := .agg ((([.int .i64 a0_ID, .string a0_Name, .string a0_Data, .bool a0_Sealed, .int .i64 a0_Until, .slice A_a0_Holds a0_Holds.length c_a0_Holds] : List Value))).toArray) (l := (([.int .i64 0, .string (⟨#[]⟩ : ByteArray), .string (⟨#[]⟩ : ByteArray), .bool false, .int .i64 0, .slice none 0 0] : List Value))) (vs := (([.int .i64 a0_ID, .string a0_Name, .string a0_Data, .bool a0_Sealed, .int .i64 a0_Until, .slice A_a0_Holds a0_Holds.length c_a0_Holds] : List Value))) (L' := (([.int .i64 a0_ID, .string a0_Name, .string a0_Data, .bool a0_Sealed, .int .i64 a0_Until, .slice A_a0_Holds a0_Holds.length c_a0_Holds] : List Value))) (by kernel_rfl) ty24 hI (by kernel_rfl) (by kernel_rfl) (by kernel_rfl) (by kernel_rfl) (by kernel_rfl) ?_)
      intro w hI
      refine OpsT.pures (r := []) [2] [4, 5] (S' := [(4, .pointer (some ⟨b2, 0, none⟩)), (5, .int .i64 1)]) (by kernel_rfl) ?_
      refine OpsT.done ?_
      refine Qn.then ?_
      refine CodT.ret ?_
      refine Qn.block_ret ?_
      refine Qn.ret_then ?_
      have hL8 := (ldBN ty24 (l := (([.int .i64 a0_ID, .string a0_Name, .string a0_Data, .bool a0_Sealed, .int .i64 a0_Until, .slice A_a0_Holds a0_Holds.length c_a0_Holds] : List Value))) (o := 0) (cs := (([.int .i64 a0_ID, .string a0_Name, .string a0_Data, .bool a0_Sealed, .int .i64 a0_Until, .slice A_a0_Holds a0_Holds.length c_a0_Holds] : List Value))) (ent_refl _) (by kernel_rfl) (whole _ _ (by kernel_rfl))) w hI
      have hI := hI.drop
      have hI := hI.drop
      have e := someS h0
      subst e
      refine Qn.keep [4, 5] (S' := [(4, .pointer (some ⟨b2, 0, none⟩)), (5, .int .i64 1)]) (by kernel_rfl) ?_
      exact post_ret (v := .tuple #[.agg ((([.int .i64 a0_ID, .string a0_Name, .string a0_Data, .bool a0_Sealed, .int .i64 a0_Until, .slice A_a0_Holds a0_Holds.length c_a0_Holds] : List Value))).toArray, .int .i64 1]) (fun a ha => RunRes.run (vs := [.agg ((([.int .i64 a0_ID, .string a0_Name, .string a0_Data, .bool a0_Sealed, .int .i64 a0_Until, .slice A_a0_Holds a0_Holds.length c_a0_Holds] : List Value))).toArray, .int .i64 1]) (.cell (t := 4) (T := 24) (ad := ⟨b2, 0, none⟩) (by kernel_rfl) hL8 (.tmp (t := 5) (by kernel_rfl) .nil)) ha (by kernel_rfl)) ⟨A_a0_Holds, c_a0_Holds, Z, Hp.le_refl _, rfl, hr_a0_Holds, hI⟩
    · rw [if_neg hb7] at h0
      refine CodT.no' (b := !y6) (by kernel_rfl) (by simpa using hb7) ?_
      refine CodT.skip ?_
      refine Qn.block_normal ?_
      refine Qn.then ?_
      refine CodT.seq ?_
      refine CodT.regionL [0, 1, 2, 3, 4] (by kernel_rfl) ?_
      refine OpsT.pures (r := [2, 3, 4]) [0, 1] [2, 4, 15, 16] (S' := [(2, .pointer (some ⟨b1, 0, none⟩)), (4, .pointer (some ⟨b2, 0, none⟩)), (15, .int .i64 a1), (16, .pointer (some ⟨b1, 3, none⟩))]) (by kernel_rfl) ?_
      have hI := hI.mono (pick2 _ _ _)
      refine OpsT.cons (Does.storeLit (T := 4) (b := b1) (o := 3) (v := .bool true) (l := (([.int .i64 a0_ID, .string a0_Name, .string a0_Data, .bool a0_Sealed, .int .i64 a0_Until, .slice A_a0_Holds a0_Holds.length c_a0_Holds] : List Value))) (vs := ([.bool true] : List Value)) (L' := (([.int .i64 a0_ID, .string a0_Name, .string a0_Data, .bool true, .int .i64 a0_Until, .slice A_a0_Holds a0_Holds.length c_a0_Holds] : List Value))) (by kernel_rfl) ty4 hI (by kernel_rfl) (by kernel_rfl) (by kernel_rfl) (by kernel_rfl) (by kernel_rfl) ?_)
      intro w hI
      refine OpsT.pures (r := [4]) [3] [2, 4, 15, 17] (S' := [(2, .pointer (some ⟨b1, 0, none⟩)), (4, .pointer (some ⟨b2, 0, none⟩)), (15, .int .i64 a1), (17, .pointer (some ⟨b1, 4, none⟩))]) (by kernel_rfl) ?_
      refine OpsT.cons (Does.storeLit (T := 3) (b := b1) (o := 4) (v := .int .i64 a1) (l := (([.int .i64 a0_ID, .string a0_Name, .string a0_Data, .bool true, .int .i64 a0_Until, .slice A_a0_Holds a0_Holds.length c_a0_Holds] : List Value))) (vs := ([.int .i64 a1] : List Value)) (L' := (([.int .i64 a0_ID, .string a0_Name, .string a0_Data, .bool true, .int .i64 a1, .slice A_a0_Holds a0_Holds.length c_a0_Holds] : List Value))) (by kernel_rfl) ty3 hI (by kernel_rfl) (by kernel_rfl) (by kernel_rfl) (by kernel_rfl) (by kernel_rfl) ?_)
      intro w hI
      refine OpsT.done ?_
      refine Qn.then ?_
      refine CodT.seq ?_
      refine CodT.regionL [0, 1, 2] (by kernel_rfl) ?_
      refine OpsT.cons (Does.yi (Yl.load (d := 18) (T := 24) (v := .agg ((([.int .i64 a0_ID, .string a0_Name, .string a0_Data, .bool true, .int .i64 a1, .slice A_a0_Holds a0_Holds.length c_a0_Holds] : List Value))).toArray) (by kernel_rfl) (ldBN ty24 (l := (([.int .i64 a0_ID, .string a0_Name, .string a0_Data, .bool true, .int .i64 a1, .slice A_a0_Holds a0_Holds.length c_a0_Holds] : List Value))) (o := 0) (cs := (([.int .i64 a0_ID, .string a0_Name, .string a0_Data, .bool true, .int .i64 a1, .slice A_a0_Holds a0_Holds.length c_a0_Holds] : List Value))) (ent_refl _) (by kernel_rfl) (whole _ _ (by kernel_rfl)))) hI ?_)
      have hI := hI.mono (pick2 _ _ _)
      refine OpsT.cons (Does.storeLit (T := 24) (b := b2) (o := 0) (v := .agg ((([.int .i64 a0_ID, .string a0_Name, .string a0_Data, .bool true, .int .i64 a1, .slice A_a0_Holds a0_Holds.length c_a0_Holds] : List Value))).toArray) (l := (([.int .i64 0, .string (⟨#[]⟩ : ByteArray), .string (⟨#[]⟩ : ByteArray), .bool false, .int .i64 0, .slice none 0 0] : List Value))) (vs := (([.int .i64 a0_ID, .string a0_Name, .string a0_Data, .bool true, .int .i64 a1, .slice A_a0_Holds a0_Holds.length c_a0_Holds] : List Value))) (L' := (([.int .i64 a0_ID, .string a0_Name, .string a0_Data, .bool true, .int .i64 a1, .slice A_a0_Holds a0_Holds.length c_a0_Holds] : List Value))) (by kernel_rfl) ty24 hI (by kernel_rfl) (by kernel_rfl) (by kernel_rfl) (by kernel_rfl) (by kernel_rfl) ?_)
      intro w hI
      refine OpsT.pures (r := []) [2] [4, 5] (S' := [(4, .pointer (some ⟨b2, 0, none⟩)), (5, .int .i64 0)]) (by kernel_rfl) ?_
      refine OpsT.done ?_
      refine Qn.then ?_
      refine CodT.ret ?_
      have hL9 := (ldBN ty24 (l := (([.int .i64 a0_ID, .string a0_Name, .string a0_Data, .bool true, .int .i64 a1, .slice A_a0_Holds a0_Holds.length c_a0_Holds] : List Value))) (o := 0) (cs := (([.int .i64 a0_ID, .string a0_Name, .string a0_Data, .bool true, .int .i64 a1, .slice A_a0_Holds a0_Holds.length c_a0_Holds] : List Value))) (ent_refl _) (by kernel_rfl) (whole _ _ (by kernel_rfl))) w hI
      have hI := hI.drop
      have hI := hI.drop
      have e := someS h0
      subst e
      refine Qn.keep [4, 5] (S' := [(4, .pointer (some ⟨b2, 0, none⟩)), (5, .int .i64 0)]) (by kernel_rfl) ?_
      exact post_ret (v := .tuple #[.agg ((([.int .i64 a0_ID, .string a0_Name, .string a0_Data, .bool true, .int .i64 a1, .slice A_a0_Holds a0_Holds.length c_a0_Holds] : List Value))).toArray, .int .i64 0]) (fun a ha => RunRes.run (vs := [.agg ((([.int .i64 a0_ID, .string a0_Name, .string a0_Data, .bool true, .int .i64 a1, .slice A_a0_Holds a0_Holds.length c_a0_Holds] : List Value))).toArray, .int .i64 0]) (.cell (t := 4) (T := 24) (ad := ⟨b2, 0, none⟩) (by kernel_rfl) hL9 (.tmp (t := 5) (by kernel_rfl) .nil)) ha (by kernel_rfl)) ⟨A_a0_Holds, c_a0_Holds, Z, Hp.le_refl _, rfl, hr_a0_Holds, hI⟩
set_option maxRecDepth 100000 in
set_option maxHeartbeats 4000000 in
/-- cenotaph/rule.Extend -/
theorem c47 (w0 w : World) (Z : Hp) (A : HP) (hI : Inv w0 Z w A) (hT : Tabs Z) (a0_ID : Int) (a0_Name : ByteArray) (a0_Data : ByteArray) (a0_Sealed : Bool) (a0_Until : Int) (A_a0_Holds : Option Addr) (c_a0_Holds : Nat) (a0_Holds : (List ByteArray)) (hr_a0_Holds : RdS Z cS 1 A_a0_Holds c_a0_Holds a0_Holds) (a1 : Int) (r : (Int × ByteArray × ByteArray × Bool × Int × (List ByteArray) × Int)) (h0 : rule_Extend a0_ID a0_Name a0_Data a0_Sealed a0_Until a0_Holds a1 = some r) :
    Calls prog 47 #[.agg ((([.int .i64 a0_ID, .string a0_Name, .string a0_Data, .bool a0_Sealed, .int .i64 a0_Until, .slice A_a0_Holds a0_Holds.length c_a0_Holds] : List Value))).toArray, .int .i64 a1] w (fun e w' => ∃ (A1 : Option Addr) (c1 : Nat) (Z' : Hp), Z.le Z' ∧ e = .returned (.tuple #[.agg ((([.int .i64 r.1, .string r.2.1, .string r.2.2.1, .bool r.2.2.2.1, .int .i64 r.2.2.2.2.1, .slice A1 r.2.2.2.2.2.1.length c1] : List Value))).toArray, .int .i64 r.2.2.2.2.2.2]) ∧ RdS Z' cS 1 A1 c1 r.2.2.2.2.2.1 ∧ Inv w0 Z' w' A) := by
  have e4 := calls_intro (R := (fun e w' => ∃ (A1 : Option Addr) (c1 : Nat) (Z' : Hp), Z.le Z' ∧ e = .returned (.tuple #[.agg ((([.int .i64 r.1, .string r.2.1, .string r.2.2.1, .bool r.2.2.2.1, .int .i64 r.2.2.2.2.1, .slice A1 r.2.2.2.2.2.1.length c1] : List Value))).toArray, .int .i64 r.2.2.2.2.2.2]) ∧ RdS Z' cS 1 A1 c1 r.2.2.2.2.2.1 ∧ Inv w0 Z' w' A)) (w := w) (args := [.agg ((([.int .i64 a0_ID, .string a0_Name, .string a0_Data, .bool a0_Sealed, .int .i64 a0_Until, .slice A_a0_Holds a0_Holds.length c_a0_Holds] : List Value))).toArray, .int .i64 a1]) (fn := Go.Proofs.Tryd.f47) 25 Go.Proofs.Tryd.func47 (by rfl) Go.Proofs.Tryd.ntmps47 (by kernel_rfl)
  refine e4 ?_
  clear e4
  unfold rule_Extend at h0
  refine CodT.seq ?_
  refine CodT.regionL [0, 1, 2] (by kernel_rfl) ?_
  refine OpsT.cons (Does.boxL (d := 2) (T := 24) (v := .agg ((([.int .i64 a0_ID, .string a0_Name, .string a0_Data, .bool a0_Sealed, .int .i64 a0_Until, .slice A_a0_Holds a0_Holds.length c_a0_Holds] : List Value))).toArray) ((([.int .i64 a0_ID, .string a0_Name, .string a0_Data, .bool a0_Sealed, .int .i64 a0_Until, .slice A_a0_Holds a0_Holds.length c_a0_Holds] : List Value))) (by kernel_rfl) hI (by kernel_rfl) ?_)
  intro b1 w hI
  refine OpsT.cons (Does.allocL (d := 4) (T := 24) ((([.int .i64 0, .string (⟨#[]⟩ : ByteArray), .string (⟨#[]⟩ : ByteArray), .bool false, .int .i64 0, .slice none 0 0] : List Value))) (by kernel_rfl) ty24 hI (by kernel_rfl) ?_)
  intro b2 w hI
  refine OpsT.pures (r := []) [2] [1, 2, 4] (S' := [(1, .int .i64 a1), (2, .pointer (some ⟨b1, 0, none⟩)), (4, .pointer (some ⟨b2, 0, none⟩))]) (by kernel_rfl) ?_
  refine OpsT.done ?_
  refine Qn.then ?_
  refine CodT.seq ?_
  refine CodT.block ?_
  refine CodT.seq ?_
  refine CodT.regionL [0, 1, 2, 3] (by kernel_rfl) ?_
  refine OpsT.pures (r := [1, 2, 3]) [0] [1, 2, 4, 7] (S' := [(1, .int .i64 a1), (2, .pointer (some ⟨b1, 0, none⟩)), (4, .pointer (some ⟨b2, 0, none⟩)), (7, .pointer (some ⟨b1, 3, none⟩))]) (by kernel_rfl) ?_
  refine OpsT.cons (Does.yi (Yl.load (d := 8) (T := 4) (v := .bool a0_Sealed) (by kernel_rfl) (ldB ty4 (l := (([.int .i64 a0_ID, .string a0_Name, .string a0_Data, .bool a0_Sealed, .int .i64 a0_Until, .slice A_a0_Holds a0_Holds.length c_a0_Holds] : List Value))) (o := 3) (v := .bool a0_Sealed) (pick2 _ _ _) (by kernel_rfl))) hI ?_)
  refine OpsT.pures (r := []) [2, 3] [1, 2, 4, 6] (S' := [(1, .int .i64 a1), (2, .pointer (some ⟨b1, 0, none⟩)), (4, .pointer (some ⟨b2, 0, none⟩)), (6, .bool (!a0_Sealed))]) (by kernel_rfl) ?_
  refine OpsT.done ?_
  refine Qn.then ?_
  by_cases hb3 : (!a0_Sealed) = true
  · rw [if_pos hb3] at h0
    refine CodT.yes' (b := !a0_Sealed) (by kernel_rfl) hb3 ?_
    refine CodT.seq ?_
    refine CodT.regionL [0, 1, 2] (by kernel_rfl) ?_
    refine OpsT.cons (Does.yi (Yl.load (d := 10) (T := 24) (v := .agg ((([.int .i64 a0_ID, .string a0_Name, .string a0_Data, .bool a0_Sealed, .int .i64 a0_Until, .slice A_a0_Holds a0_Holds.length c_a0_Holds] : List Value))).toArray) (by kernel_rfl) (ldBN ty24 (l := (([.int .i64 a0_ID, .string a0_Name, .string a0_Data, .bool a0_Sealed, .int .i64 a0_Until, .slice A_a0_Holds a0_Holds.length c_a0_Holds] : List Value))) (o := 0) (cs := (([.int .i64 a0_ID, .string a0_Name, .string a0_Data, .bool a0_Sealed, .int .i64 a0_Until, .slice A_a0_Holds a0_Holds.length c_a0_Holds] : List Value))) (pick2 _ _ _) (by kernel_rfl) (whole _ _ (by kernel_rfl)))) hI ?_)
    refine OpsT.cons (Does.storeLit (T := 24) (b := b2) (o := 0) (v := .agg ((([.int .i64 a0_ID, .string a0_Name, .string a0_Data, .bool a0_Sealed, .int .i64 a0_Until, .slice A_a0_Holds a0_Holds.length c_a0_Holds] : List Value))).toArray) (l := (([.int .i64 0, .string (⟨#[]⟩ : ByteArray), .string (⟨#[]⟩ : ByteArray), .bool false, .int .i64 0, .slice none 0 0] : List Value))) (vs := (([.int .i64 a0_ID, .string a0_Name, .string a0_Data, .bool a0_Sealed, .int .i64 a0_Until, .slice A_a0_Holds a0_Holds.length c_a0_Holds] : List Value))) (L' := (([.int .i64 a0_ID, .string a0_Name, .string a0_Data, .bool a0_Sealed, .int .i64 a0_Until, .slice A_a0_Holds a0_Holds.length c_a0_Holds] : List Value))) (by kernel_rfl) ty24 hI (by kernel_rfl) (by kernel_rfl) (by kernel_rfl) (by kernel_rfl) (by kernel_rfl) ?_)
    intro w hI
    refine OpsT.pures (r := []) [2] [4, 5] (S' := [(4, .pointer (some ⟨b2, 0, none⟩)), (5, .int .i64 6)]) (by kernel_rfl) ?_
    refine OpsT.done ?_
    refine Qn.then ?_
    refine CodT.ret ?_
    refine Qn.block_ret ?_
    refine Qn.ret_then ?_
    have hL4 := (ldBN ty24 (l := (([.int .i64 a0_ID, .string a0_Name, .string a0_Data, .bool a0_Sealed, .int .i64 a0_Until, .slice A_a0_Holds a0_Holds.length c_a0_Holds] : List Value))) (o := 0) (cs := (([.int .i64 a0_ID, .string a0_Name, .string a0_Data, .bool a0_Sealed, .int .i64 a0_Until, .slice A_a0_Holds a0_Holds.length c_a0_Holds] : List Value))) (ent_refl _) (by kernel_rfl) (whole _ _ (by kernel_rfl))) w hI
    have hI := hI.drop
    have hI := hI.drop
    have e := someS h0
    subst e
    refine Qn.keep [4, 5] (S' := [(4, .pointer (some ⟨b2, 0, none⟩)), (5, .int .i64 6)]) (by kernel_rfl) ?_
    exact post_ret (v := .tuple #[.agg ((([.int .i64 a0_ID, .string a0_Name, .string a0_Data, .bool a0_Sealed, .int .i64 a0_Until, .slice A_a0_Holds a0_Holds.length c_a0_Holds] : List Value))).toArray, .int .i64 6]) (fun a ha => RunRes.run (vs := [.agg ((([.int .i64 a0_ID, .string a0_Name, .string a0_Data, .bool a0_Sealed, .int .i64 a0_Until, .slice A_a0_Holds a0_Holds.length c_a0_Holds] : List Value))).toArray, .int .i64 6]) (.cell (t := 4) (T := 24) (ad := ⟨b2, 0, none⟩) (by kernel_rfl) hL4 (.tmp (t := 5) (by kernel_rfl) .nil)) ha (by kernel_rfl)) ⟨A_a0_Holds, c_a0_Holds, Z, Hp.le_refl _, rfl, hr_a0_Holds, hI⟩
  · rw [if_neg hb3] at h0
    refine CodT.no' (b := !a0_Sealed) (by kernel_rfl) (by simpa using hb3) ?_
    refine CodT.seq ?_
    refine CodT.regionL [0, 1, 2, 3] (by kernel_rfl) ?_
    refine OpsT.pures (r := [1, 2, 3]) [0] [1, 2, 4, 12] (S' := [(1, .int .i64 a1), (2, .pointer (some ⟨b1, 0, none⟩)), (4, .pointer (some ⟨b2, 0, none⟩)), (12, .int .i64 a1)]) (by kernel_rfl) ?_
    obtain ⟨y6, hc5, h0⟩ := bindS h0
    try dsimp only at h0
    refine OpsT.cons (Does.call (d := some 13) (n := 62) (vs := [.int .i64 a1]) (by kernel_rfl) en62 (c62 w0 w _ _ hI hT a1 _ hc5) ?_)
    rintro e w ⟨rfl, hI⟩
    refine ⟨_, rfl, ?_⟩
    refine OpsT.pures (r := []) [2, 3] [1, 2, 4, 11] (S' := [(1, .int .i64 a1), (2, .pointer (some ⟨b1, 0, none⟩)), (4, .pointer (some ⟨b2, 0, none⟩)), (11, .bool (!y6))]) (by kernel_rfl) ?_
    refine OpsT.done ?_
    refine Qn.then ?_
    by_cases hb7 : (!y6) = true
    · rw [if_pos hb7] at h0
      refine CodT.yes' (b := !y6) (by kernel_rfl) hb7 ?_
      refine CodT.seq ?_
      refine CodT.regionL [0, 1, 2] (by kernel_rfl) ?_
      refine OpsT.cons (Does.yi (Yl.load (d := 15) (T := 24) (v := .agg ((([.int .i64 a0_ID, .string a0_Name, .string a0_Data, .bool a0_Sealed, .int .i64 a0_Until, .slice A_a0_Holds a0_Holds.length c_a0_Holds] : List Value))).toArray) (by kernel_rfl) (ldBN ty24 (l := (([.int .i64 a0_ID, .string a0_Name, .string a0_Data, .bool a0_Sealed, .int .i64 a0_Until, .slice A_a0_Holds a0_Holds.length c_a0_Holds] : List Value))) (o := 0) (cs := (([.int .i64 a0_ID, .string a0_Name, .string a0_Data, .bool a0_Sealed, .int .i64 a0_Until, .slice A_a0_Holds a0_Holds.length c_a0_Holds] : List Value))) (pick2 _ _ _) (by kernel_rfl) (whole _ _ (by kernel_rfl)))) hI ?_)
      refine OpsT.cons (Does.storeLit (T := 24) (b := b2) (o := 0) (v := .agg ((([.int .i64 a0_ID, .string a0_Name, .string a0_Data, .bool a0_Sealed, .int .i64 a0_Until, .slice A_a0_Holds a0_Holds.length c_a0_Holds] : List Value))).toArray) (l := (([.int .i64 0, .string (⟨#[]⟩ : ByteArray), .string (⟨#[]⟩ : ByteArray), .bool false, .int .i64 0, .slice none 0 0] : List Value))) (vs := (([.int .i64 a0_ID, .string a0_Name, .string a0_Data, .bool a0_Sealed, .int .i64 a0_Until, .slice A_a0_Holds a0_Holds.length c_a0_Holds] : List Value))) (L' := (([.int .i64 a0_ID, .string a0_Name, .string a0_Data, .bool a0_Sealed, .int .i64 a0_Until, .slice A_a0_Holds a0_Holds.length c_a0_Holds] : List Value))) (by kernel_rfl) ty24 hI (by kernel_rfl) (by kernel_rfl) (by kernel_rfl) (by kernel_rfl) (by kernel_rfl) ?_)
      intro w hI
      refine OpsT.pures (r := []) [2] [4, 5] (S' := [(4, .pointer (some ⟨b2, 0, none⟩)), (5, .int .i64 1)]) (by kernel_rfl) ?_
      refine OpsT.done ?_
      refine Qn.then ?_
      refine CodT.ret ?_
      refine Qn.block_ret ?_
      refine Qn.ret_then ?_
      have hL8 := (ldBN ty24 (l := (([.int .i64 a0_ID, .string a0_Name, .string a0_Data, .bool a0_Sealed, .int .i64 a0_Until, .slice A_a0_Holds a0_Holds.length c_a0_Holds] : List Value))) (o := 0) (cs := (([.int .i64 a0_ID, .string a0_Name, .string a0_Data, .bool a0_Sealed, .int .i64 a0_Until, .slice A_a0_Holds a0_Holds.length c_a0_Holds] : List Value))) (ent_refl _) (by kernel_rfl) (whole _ _ (by kernel_rfl))) w hI
      have hI := hI.drop
      have hI := hI.drop
      have e := someS h0
      subst e
      refine Qn.keep [4, 5] (S' := [(4, .pointer (some ⟨b2, 0, none⟩)), (5, .int .i64 1)]) (by kernel_rfl) ?_
      exact post_ret (v := .tuple #[.agg ((([.int .i64 a0_ID, .string a0_Name, .string a0_Data, .bool a0_Sealed, .int .i64 a0_Until, .slice A_a0_Holds a0_Holds.length c_a0_Holds] : List Value))).toArray, .int .i64 1]) (fun a ha => RunRes.run (vs := [.agg ((([.int .i64 a0_ID, .string a0_Name, .string a0_Data, .bool a0_Sealed, .int .i64 a0_Until, .slice A_a0_Holds a0_Holds.length c_a0_Holds] : List Value))).toArray, .int .i64 1]) (.cell (t := 4) (T := 24) (ad := ⟨b2, 0, none⟩) (by kernel_rfl) hL8 (.tmp (t := 5) (by kernel_rfl) .nil)) ha (by kernel_rfl)) ⟨A_a0_Holds, c_a0_Holds, Z, Hp.le_refl _, rfl, hr_a0_Holds, hI⟩
    · rw [if_neg hb7] at h0
      refine CodT.no' (b := !y6) (by kernel_rfl) (by simpa using hb7) ?_
      refine CodT.seq ?_
      refine CodT.regionL [0, 1, 2, 3, 4] (by kernel_rfl) ?_
      refine OpsT.pures (r := [2, 3, 4]) [0, 1] [1, 2, 4, 17, 18] (S' := [(1, .int .i64 a1), (2, .pointer (some ⟨b1, 0, none⟩)), (4, .pointer (some ⟨b2, 0, none⟩)), (17, .int .i64 a1), (18, .pointer (some ⟨b1, 4, none⟩))]) (by kernel_rfl) ?_
      refine OpsT.cons (Does.yi (Yl.load (d := 19) (T := 3) (v := .int .i64 a0_Until) (by kernel_rfl) (ldB ty3 (l := (([.int .i64 a0_ID, .string a0_Name, .string a0_Data, .bool a0_Sealed, .int .i64 a0_Until, .slice A_a0_Holds a0_Holds.length c_a0_Holds] : List Value))) (o := 4) (v := .int .i64 a0_Until) (pick2 _ _ _) (by kernel_rfl))) hI ?_)
      refine OpsT.pures (r := []) [3, 4] [1, 2, 4, 16] (S' := [(1, .int .i64 a1), (2, .pointer (some ⟨b1, 0, none⟩)), (4, .pointer (some ⟨b2, 0, none⟩)), (16, .bool (decide (a1 < a0_Until)))]) (by kernel_rfl) ?_
      refine OpsT.done ?_
      refine Qn.then ?_
      by_cases hb9 : (decide (a1 < a0_Until)) = true
      · rw [if_pos hb9] at h0
        refine CodT.yes' (b := decide (a1 < a0_Until)) (by kernel_rfl) hb9 ?_
        refine CodT.seq ?_
        refine CodT.regionL [0, 1, 2] (by kernel_rfl) ?_
        refine OpsT.cons (Does.yi (Yl.load (d := 21) (T := 24) (v := .agg ((([.int .i64 a0_ID, .string a0_Name, .string a0_Data, .bool a0_Sealed, .int .i64 a0_Until, .slice A_a0_Holds a0_Holds.length c_a0_Holds] : List Value))).toArray) (by kernel_rfl) (ldBN ty24 (l := (([.int .i64 a0_ID, .string a0_Name, .string a0_Data, .bool a0_Sealed, .int .i64 a0_Until, .slice A_a0_Holds a0_Holds.length c_a0_Holds] : List Value))) (o := 0) (cs := (([.int .i64 a0_ID, .string a0_Name, .string a0_Data, .bool a0_Sealed, .int .i64 a0_Until, .slice A_a0_Holds a0_Holds.length c_a0_Holds] : List Value))) (pick2 _ _ _) (by kernel_rfl) (whole _ _ (by kernel_rfl)))) hI ?_)
        refine OpsT.cons (Does.storeLit (T := 24) (b := b2) (o := 0) (v := .agg ((([.int .i64 a0_ID, .string a0_Name, .string a0_Data, .bool a0_Sealed, .int .i64 a0_Until, .slice A_a0_Holds a0_Holds.length c_a0_Holds] : List Value))).toArray) (l := (([.int .i64 0, .string (⟨#[]⟩ : ByteArray), .string (⟨#[]⟩ : ByteArray), .bool false, .int .i64 0, .slice none 0 0] : List Value))) (vs := (([.int .i64 a0_ID, .string a0_Name, .string a0_Data, .bool a0_Sealed, .int .i64 a0_Until, .slice A_a0_Holds a0_Holds.length c_a0_Holds] : List Value))) (L' := (([.int .i64 a0_ID, .string a0_Name, .string a0_Data, .bool a0_Sealed, .int .i64 a0_Until, .slice A_a0_Holds a0_Holds.length c_a0_Holds] : List Value))) (by kernel_rfl) ty24 hI (by kernel_rfl) (by kernel_rfl) (by kernel_rfl) (by kernel_rfl) (by kernel_rfl) ?_)
        intro w hI
        refine OpsT.pures (r := []) [2] [4, 5] (S' := [(4, .pointer (some ⟨b2, 0, none⟩)), (5, .int .i64 7)]) (by kernel_rfl) ?_
        refine OpsT.done ?_
        refine Qn.then ?_
        refine CodT.ret ?_
        refine Qn.block_ret ?_
        refine Qn.ret_then ?_
        have hL10 := (ldBN ty24 (l := (([.int .i64 a0_ID, .string a0_Name, .string a0_Data, .bool a0_Sealed, .int .i64 a0_Until, .slice A_a0_Holds a0_Holds.length c_a0_Holds] : List Value))) (o := 0) (cs := (([.int .i64 a0_ID, .string a0_Name, .string a0_Data, .bool a0_Sealed, .int .i64 a0_Until, .slice A_a0_Holds a0_Holds.length c_a0_Holds] : List Value))) (ent_refl _) (by kernel_rfl) (whole _ _ (by kernel_rfl))) w hI
        have hI := hI.drop
        have hI := hI.drop
        have e := someS h0
        subst e
        refine Qn.keep [4, 5] (S' := [(4, .pointer (some ⟨b2, 0, none⟩)), (5, .int .i64 7)]) (by kernel_rfl) ?_
        exact post_ret (v := .tuple #[.agg ((([.int .i64 a0_ID, .string a0_Name, .string a0_Data, .bool a0_Sealed, .int .i64 a0_Until, .slice A_a0_Holds a0_Holds.length c_a0_Holds] : List Value))).toArray, .int .i64 7]) (fun a ha => RunRes.run (vs := [.agg ((([.int .i64 a0_ID, .string a0_Name, .string a0_Data, .bool a0_Sealed, .int .i64 a0_Until, .slice A_a0_Holds a0_Holds.length c_a0_Holds] : List Value))).toArray, .int .i64 7]) (.cell (t := 4) (T := 24) (ad := ⟨b2, 0, none⟩) (by kernel_rfl) hL10 (.tmp (t := 5) (by kernel_rfl) .nil)) ha (by kernel_rfl)) ⟨A_a0_Holds, c_a0_Holds, Z, Hp.le_refl _, rfl, hr_a0_Holds, hI⟩
      · rw [if_neg hb9] at h0
        refine CodT.no' (b := decide (a1 < a0_Until)) (by kernel_rfl) (by simpa using hb9) ?_
        refine CodT.skip ?_
        refine Qn.block_normal ?_
        refine Qn.then ?_
        refine CodT.seq ?_
        refine CodT.regionL [0, 1, 2] (by kernel_rfl) ?_
        refine OpsT.pures (r := [2]) [0, 1] [2, 4, 22, 23] (S' := [(2, .pointer (some ⟨b1, 0, none⟩)), (4, .pointer (some ⟨b2, 0, none⟩)), (22, .int .i64 a1), (23, .pointer (some ⟨b1, 4, none⟩))]) (by kernel_rfl) ?_
        have hI := hI.mono (pick2 _ _ _)
        refine OpsT.cons (Does.storeLit (T := 3) (b := b1) (o := 4) (v := .int .i64 a1) (l := (([.int .i64 a0_ID, .string a0_Name, .string a0_Data, .bool a0_Sealed, .int .i64 a0_Until, .slice A_a0_Holds a0_Holds.length c_a0_Holds] : List Value))) (vs := ([.int .i64 a1] : List Value)) (L' := (([.int .i64 a0_ID, .string a0_Name, .string a0_Data, .bool a0_Sealed, .int .i64 a1, .slice A_a0_Holds a0_Holds.length c_a0_Holds] : List Value))) (by kernel_rfl) ty3 hI (by kernel_rfl) (by kernel_rfl) (by kernel_rfl) (by kernel_rfl) (by kernel_rfl) ?_)
        intro w hI
        refine OpsT.done ?_
        refine Qn.then ?_
        refine CodT.seq ?_
        refine CodT.regionL [0, 1, 2] (by kernel_rfl) ?_
        refine OpsT.cons (Does.yi (Yl.load (d := 24) (T := 24) (v := .agg ((([.int .i64 a0_ID, .string a0_Name, .string a0_Data, .bool a0_Sealed, .int .i64 a1, .slice A_a0_Holds a0_Holds.length c_a0_Holds] : List Value))).toArray) (by kernel_rfl) (ldBN ty24 (l := (([.int .i64 a0_ID, .string a0_Name, .string a0_Data, .bool a0_Sealed, .int .i64 a1, .slice A_a0_Holds a0_Holds.length c_a0_Holds] : List Value))) (o := 0) (cs := (([.int .i64 a0_ID, .string a0_Name, .string a0_Data, .bool a0_Sealed, .int .i64 a1, .slice A_a0_Holds a0_Holds.length c_a0_Holds] : List Value))) (ent_refl _) (by kernel_rfl) (whole _ _ (by kernel_rfl)))) hI ?_)
        have hI := hI.mono (pick2 _ _ _)
        refine OpsT.cons (Does.storeLit (T := 24) (b := b2) (o := 0) (v := .agg ((([.int .i64 a0_ID, .string a0_Name, .string a0_Data, .bool a0_Sealed, .int .i64 a1, .slice A_a0_Holds a0_Holds.length c_a0_Holds] : List Value))).toArray) (l := (([.int .i64 0, .string (⟨#[]⟩ : ByteArray), .string (⟨#[]⟩ : ByteArray), .bool false, .int .i64 0, .slice none 0 0] : List Value))) (vs := (([.int .i64 a0_ID, .string a0_Name, .string a0_Data, .bool a0_Sealed, .int .i64 a1, .slice A_a0_Holds a0_Holds.length c_a0_Holds] : List Value))) (L' := (([.int .i64 a0_ID, .string a0_Name, .string a0_Data, .bool a0_Sealed, .int .i64 a1, .slice A_a0_Holds a0_Holds.length c_a0_Holds] : List Value))) (by kernel_rfl) ty24 hI (by kernel_rfl) (by kernel_rfl) (by kernel_rfl) (by kernel_rfl) (by kernel_rfl) ?_)
        intro w hI
        refine OpsT.pures (r := []) [2] [4, 5] (S' := [(4, .pointer (some ⟨b2, 0, none⟩)), (5, .int .i64 0)]) (by kernel_rfl) ?_
        refine OpsT.done ?_
        refine Qn.then ?_
        refine CodT.ret ?_
        have hL11 := (ldBN ty24 (l := (([.int .i64 a0_ID, .string a0_Name, .string a0_Data, .bool a0_Sealed, .int .i64 a1, .slice A_a0_Holds a0_Holds.length c_a0_Holds] : List Value))) (o := 0) (cs := (([.int .i64 a0_ID, .string a0_Name, .string a0_Data, .bool a0_Sealed, .int .i64 a1, .slice A_a0_Holds a0_Holds.length c_a0_Holds] : List Value))) (ent_refl _) (by kernel_rfl) (whole _ _ (by kernel_rfl))) w hI
        have hI := hI.drop
        have hI := hI.drop
        have e := someS h0
        subst e
        refine Qn.keep [4, 5] (S' := [(4, .pointer (some ⟨b2, 0, none⟩)), (5, .int .i64 0)]) (by kernel_rfl) ?_
        exact post_ret (v := .tuple #[.agg ((([.int .i64 a0_ID, .string a0_Name, .string a0_Data, .bool a0_Sealed, .int .i64 a1, .slice A_a0_Holds a0_Holds.length c_a0_Holds] : List Value))).toArray, .int .i64 0]) (fun a ha => RunRes.run (vs := [.agg ((([.int .i64 a0_ID, .string a0_Name, .string a0_Data, .bool a0_Sealed, .int .i64 a1, .slice A_a0_Holds a0_Holds.length c_a0_Holds] : List Value))).toArray, .int .i64 0]) (.cell (t := 4) (T := 24) (ad := ⟨b2, 0, none⟩) (by kernel_rfl) hL11 (.tmp (t := 5) (by kernel_rfl) .nil)) ha (by kernel_rfl)) ⟨A_a0_Holds, c_a0_Holds, Z, Hp.le_refl _, rfl, hr_a0_Holds, hI⟩
set_option maxRecDepth 100000 in
set_option maxHeartbeats 4000000 in
/-- cenotaph/rule.May -/
theorem c38 (w0 w : World) (Z : Hp) (A : HP) (hI : Inv w0 Z w A) (hT : Tabs Z) (a0_ID : Int) (a0_Name : ByteArray) (a0_Data : ByteArray) (a0_Sealed : Bool) (a0_Until : Int) (A_a0_Holds : Option Addr) (c_a0_Holds : Nat) (a0_Holds : (List ByteArray)) (hr_a0_Holds : RdS Z cS 1 A_a0_Holds c_a0_Holds a0_Holds) (a1 : Int) (r : Int) (h0 : rule_May a0_ID a0_Name a0_Data a0_Sealed a0_Until a0_Holds a1 = some r) :
    Calls prog 38 #[.agg ((([.int .i64 a0_ID, .string a0_Name, .string a0_Data, .bool a0_Sealed, .int .i64 a0_Until, .slice A_a0_Holds a0_Holds.length c_a0_Holds] : List Value))).toArray, .int .i64 a1] w (fun e w' => e = .returned (.int .i64 r) ∧ Inv w0 Z w' A) := by
  have e4 := calls_intro (R := (fun e w' => e = .returned (.int .i64 r) ∧ Inv w0 Z w' A)) (w := w) (args := [.agg ((([.int .i64 a0_ID, .string a0_Name, .string a0_Data, .bool a0_Sealed, .int .i64 a0_Until, .slice A_a0_Holds a0_Holds.length c_a0_Holds] : List Value))).toArray, .int .i64 a1]) (fn := Go.Proofs.Tryd.f38) 19 Go.Proofs.Tryd.func38 (by rfl) Go.Proofs.Tryd.ntmps38 (by kernel_rfl)
  refine e4 ?_
  clear e4
  unfold rule_May at h0
  refine CodT.seq ?_
  refine CodT.regionL [0, 1] (by kernel_rfl) ?_
  refine OpsT.cons (Does.boxL (d := 2) (T := 24) (v := .agg ((([.int .i64 a0_ID, .string a0_Name, .string a0_Data, .bool a0_Sealed, .int .i64 a0_Until, .slice A_a0_Holds a0_Holds.length c_a0_Holds] : List Value))).toArray) ((([.int .i64 a0_ID, .string a0_Name, .string a0_Data, .bool a0_Sealed, .int .i64 a0_Until, .slice A_a0_Holds a0_Holds.length c_a0_Holds] : List Value))) (by kernel_rfl) hI (by kernel_rfl) ?_)
  intro b1 w hI
  refine OpsT.pures (r := []) [1] [1, 2] (S' := [(1, .int .i64 a1), (2, .pointer (some ⟨b1, 0, none⟩))]) (by kernel_rfl) ?_
  refine OpsT.done ?_
  refine Qn.then ?_
  refine CodT.seq ?_
  refine CodT.block ?_
  refine CodT.seq ?_
  refine CodT.regionL [0, 1, 2, 3] (by kernel_rfl) ?_
  refine OpsT.pures (r := [1, 2, 3]) [0] [1, 2, 6] (S' := [(1, .int .i64 a1), (2, .pointer (some ⟨b1, 0, none⟩)), (6, .pointer (some ⟨b1, 3, none⟩))]) (by kernel_rfl) ?_
  refine OpsT.cons (Does.yi (Yl.load (d := 7) (T := 4) (v := .bool a0_Sealed) (by kernel_rfl) (ldB ty4 (l := (([.int .i64 a0_ID, .string a0_Name, .string a0_Data, .bool a0_Sealed, .int .i64 a0_Until, .slice A_a0_Holds a0_Holds.length c_a0_Holds] : List Value))) (o := 3) (v := .bool a0_Sealed) (ent_refl _) (by kernel_rfl))) hI ?_)
  refine OpsT.pures (r := []) [2, 3] [1, 2, 5] (S' := [(1, .int .i64 a1), (2, .pointer (some ⟨b1, 0, none⟩)), (5, .bool (!a0_Sealed))]) (by kernel_rfl) ?_
  refine OpsT.done ?_
  refine Qn.then ?_
  by_cases hb2 : (!a0_Sealed) = true
  · rw [if_pos hb2] at h0
    refine CodT.yes' (b := !a0_Sealed) (by kernel_rfl) hb2 ?_
    refine CodT.seq ?_
    refine CodT.regionL [0] (by kernel_rfl) ?_
    refine OpsT.pures (r := []) [0] [4] (S' := [(4, .int .i64 6)]) (by kernel_rfl) ?_
    refine OpsT.done ?_
    refine Qn.then ?_
    refine CodT.ret ?_
    refine Qn.block_ret ?_
    refine Qn.ret_then ?_
    have hI := hI.drop
    have e := someS h0
    subst e
    refine Qn.keep [4] (S' := [(4, .int .i64 6)]) (by kernel_rfl) ?_
    exact post_ret (v := .int .i64 6) (fun a ha => RunRes.run (vs := [.int .i64 6]) (.tmp (t := 4) (by kernel_rfl) .nil) ha (by kernel_rfl)) ⟨rfl, hI⟩
  · rw [if_neg hb2] at h0
    refine CodT.no' (b := !a0_Sealed) (by kernel_rfl) (by simpa using hb2) ?_
    refine CodT.seq ?_
    refine CodT.regionL [0, 1, 2, 3, 4] (by kernel_rfl) ?_
    refine OpsT.pures (r := [2, 3, 4]) [0, 1] [2, 10, 11] (S' := [(2, .pointer (some ⟨b1, 0, none⟩)), (10, .int .i64 a1), (11, .pointer (some ⟨b1, 4, none⟩))]) (by kernel_rfl) ?_
    refine OpsT.cons (Does.yi (Yl.load (d := 12) (T := 3) (v := .int .i64 a0_Until) (by kernel_rfl) (ldB ty3 (l := (([.int .i64 a0_ID, .string a0_Name, .string a0_Data, .bool a0_Sealed, .int .i64 a0_Until, .slice A_a0_Holds a0_Holds.length c_a0_Holds] : List Value))) (o := 4) (v := .int .i64 a0_Until) (ent_refl _) (by kernel_rfl))) hI ?_)
    refine OpsT.pures (r := []) [3, 4] [2, 9] (S' := [(2, .pointer (some ⟨b1, 0, none⟩)), (9, .bool (decide (a1 < a0_Until)))]) (by kernel_rfl) ?_
    refine OpsT.done ?_
    refine Qn.then ?_
    by_cases hb3 : (decide (a1 < a0_Until)) = true
    · rw [if_pos hb3] at h0
      refine CodT.yes' (b := decide (a1 < a0_Until)) (by kernel_rfl) hb3 ?_
      refine CodT.seq ?_
      refine CodT.regionL [0] (by kernel_rfl) ?_
      refine OpsT.pures (r := []) [0] [4] (S' := [(4, .int .i64 8)]) (by kernel_rfl) ?_
      refine OpsT.done ?_
      refine Qn.then ?_
      refine CodT.ret ?_
      refine Qn.block_ret ?_
      refine Qn.ret_then ?_
      have hI := hI.drop
      have e := someS h0
      subst e
      refine Qn.keep [4] (S' := [(4, .int .i64 8)]) (by kernel_rfl) ?_
      exact post_ret (v := .int .i64 8) (fun a ha => RunRes.run (vs := [.int .i64 8]) (.tmp (t := 4) (by kernel_rfl) .nil) ha (by kernel_rfl)) ⟨rfl, hI⟩
    · rw [if_neg hb3] at h0
      refine CodT.no' (b := decide (a1 < a0_Until)) (by kernel_rfl) (by simpa using hb3) ?_
      refine CodT.seq ?_
      refine CodT.regionL [0, 1, 2, 3, 4] (by kernel_rfl) ?_
      refine OpsT.pures (r := [1, 2, 3, 4]) [0] [15] (S' := [(15, .pointer (some ⟨b1, 5, none⟩))]) (by kernel_rfl) ?_
      refine OpsT.cons (Does.yi (Yl.load (d := 16) (T := 22) (v := .slice A_a0_Holds a0_Holds.length c_a0_Holds) (by kernel_rfl) (ldB ty22 (l := (([.int .i64 a0_ID, .string a0_Name, .string a0_Data, .bool a0_Sealed, .int .i64 a0_Until, .slice A_a0_Holds a0_Holds.length c_a0_Holds] : List Value))) (o := 5) (v := .slice A_a0_Holds a0_Holds.length c_a0_Holds) (ent_refl _) (by kernel_rfl))) hI ?_)
      refine OpsT.pures (r := []) [2, 3, 4] [14] (S' := [(14, .bool (decide ((a0_Holds.length : Int) > 0)))]) (by kernel_rfl) ?_
      refine OpsT.done ?_
      refine Qn.then ?_
      by_cases hb4 : (decide ((a0_Holds.length : Int) > 0)) = true
      · rw [if_pos hb4] at h0
        refine CodT.yes' (b := decide ((a0_Holds.length : Int) > 0)) (by kernel_rfl) hb4 ?_
        refine CodT.seq ?_
        refine CodT.regionL [0] (by kernel_rfl) ?_
        refine OpsT.pures (r := []) [0] [4] (S' := [(4, .int .i64 9)]) (by kernel_rfl) ?_
        refine OpsT.done ?_
        refine Qn.then ?_
        refine CodT.ret ?_
        refine Qn.block_ret ?_
        refine Qn.ret_then ?_
        have hI := hI.drop
        have e := someS h0
        subst e
        refine Qn.keep [4] (S' := [(4, .int .i64 9)]) (by kernel_rfl) ?_
        exact post_ret (v := .int .i64 9) (fun a ha => RunRes.run (vs := [.int .i64 9]) (.tmp (t := 4) (by kernel_rfl) .nil) ha (by kernel_rfl)) ⟨rfl, hI⟩
      · rw [if_neg hb4] at h0
        refine CodT.no' (b := decide ((a0_Holds.length : Int) > 0)) (by kernel_rfl) (by simpa using hb4) ?_
        refine CodT.skip ?_
        refine Qn.block_normal ?_
        refine Qn.then ?_
        refine CodT.seq ?_
        refine CodT.regionL [0] (by kernel_rfl) ?_
        refine OpsT.pures (r := []) [0] [4] (S' := [(4, .int .i64 0)]) (by kernel_rfl) ?_
        refine OpsT.done ?_
        refine Qn.then ?_
        refine CodT.ret ?_
        have hI := hI.drop
        have e := someS h0
        subst e
        refine Qn.keep [4] (S' := [(4, .int .i64 0)]) (by kernel_rfl) ?_
        exact post_ret (v := .int .i64 0) (fun a ha => RunRes.run (vs := [.int .i64 0]) (.tmp (t := 4) (by kernel_rfl) .nil) ha (by kernel_rfl)) ⟨rfl, hI⟩
end Go.Cen
