/- That the machine computes these: walks, printed by a program of ours. -/
import Derived.Test.YthdoklobbcedcaeDoorPx
import Derived.Test.YthdoklobbcedcaeDoorWx2
set_option linter.unusedVariables false
set_option linter.unusedSimpArgs false
namespace Go.Cen
set_option maxRecDepth 100000 in
set_option maxHeartbeats 4000000 in
/-- cenotaph/file.Meta -/
theorem c28 (w0 w : World) (Z : Hp) (A : HP) (hI : Inv w0 Z w A) (hT : Tabs Z) (a0_ID : Int) (a0_Name : ByteArray) (a0_Data : ByteArray) (a0_Sealed : Bool) (a0_Until : Int) (A_a0_Holds : Option Addr) (c_a0_Holds : Nat) (a0_Holds : (List ByteArray)) (hr_a0_Holds : RdS Z cS 1 A_a0_Holds c_a0_Holds a0_Holds) (r : (Int × ByteArray × ByteArray × Bool × Int × (List ByteArray))) (h0 : file_Meta a0_ID a0_Name a0_Data a0_Sealed a0_Until a0_Holds = some r) :
    Calls prog 28 #[.agg ((([.int .i64 a0_ID, .string a0_Name, .string a0_Data, .bool a0_Sealed, .int .i64 a0_Until, .slice A_a0_Holds a0_Holds.length c_a0_Holds] : List Value))).toArray] w (fun e w' => ∃ (A1 : Option Addr) (c1 : Nat) (Z' : Hp), Z.le Z' ∧ e = .returned (.agg ((([.int .i64 r.1, .string r.2.1, .string r.2.2.1, .bool r.2.2.2.1, .int .i64 r.2.2.2.2.1, .slice A1 r.2.2.2.2.2.length c1] : List Value))).toArray) ∧ RdS Z' cS 1 A1 c1 r.2.2.2.2.2 ∧ Inv w0 Z' w' A) := by
  have e4 := calls_intro (R := (fun e w' => ∃ (A1 : Option Addr) (c1 : Nat) (Z' : Hp), Z.le Z' ∧ e = .returned (.agg ((([.int .i64 r.1, .string r.2.1, .string r.2.2.1, .bool r.2.2.2.1, .int .i64 r.2.2.2.2.1, .slice A1 r.2.2.2.2.2.length c1] : List Value))).toArray) ∧ RdS Z' cS 1 A1 c1 r.2.2.2.2.2 ∧ Inv w0 Z' w' A)) (w := w) (args := [.agg ((([.int .i64 a0_ID, .string a0_Name, .string a0_Data, .bool a0_Sealed, .int .i64 a0_Until, .slice A_a0_Holds a0_Holds.length c_a0_Holds] : List Value))).toArray]) (fn := Go.Proofs.Tryd.f28) 5 Go.Proofs.Tryd.func28 (by rfl) Go.Proofs.Tryd.ntmps28 (by kernel_rfl)
  refine e4 ?_
  clear e4
  unfold file_Meta at h0
  refine CodT.seq ?_
  refine CodT.regionL [0, 1] (by kernel_rfl) ?_
  refine OpsT.cons (Does.boxL (d := 1) (T := 24) (v := .agg ((([.int .i64 a0_ID, .string a0_Name, .string a0_Data, .bool a0_Sealed, .int .i64 a0_Until, .slice A_a0_Holds a0_Holds.length c_a0_Holds] : List Value))).toArray) ((([.int .i64 a0_ID, .string a0_Name, .string a0_Data, .bool a0_Sealed, .int .i64 a0_Until, .slice A_a0_Holds a0_Holds.length c_a0_Holds] : List Value))) (by kernel_rfl) hI (by kernel_rfl) ?_)
  intro b1 w hI
  refine OpsT.cons (Does.allocL (d := 2) (T := 24) ((([.int .i64 0, .string (⟨#[]⟩ : ByteArray), .string (⟨#[]⟩ : ByteArray), .bool false, .int .i64 0, .slice none 0 0] : List Value))) (by kernel_rfl) ty24 hI (by kernel_rfl) ?_)
  intro b2 w hI
  refine OpsT.done ?_
  refine Qn.then ?_
  refine CodT.seq ?_
  refine CodT.regionL [0, 1] (by kernel_rfl) ?_
  refine OpsT.pures (r := [1]) [0] [1, 2, 3] (S' := [(1, .pointer (some ⟨b1, 0, none⟩)), (2, .pointer (some ⟨b2, 0, none⟩)), (3, .pointer (some ⟨b1, 2, none⟩))]) (by kernel_rfl) ?_
  have hI := hI.mono (pick2 _ _ _)
  refine OpsT.cons (Does.storeLit (T := 9) (b := b1) (o := 2) (v := .string (⟨#[]⟩ : ByteArray)) (l := (([.int .i64 a0_ID, .string a0_Name, .string a0_Data, .bool a0_Sealed, .int .i64 a0_Until, .slice A_a0_Holds a0_Holds.length c_a0_Holds] : List Value))) (vs := ([.string (⟨#[]⟩ : ByteArray)] : List Value)) (L' := (([.int .i64 a0_ID, .string a0_Name, .string (⟨#[]⟩ : ByteArray), .bool a0_Sealed, .int .i64 a0_Until, .slice A_a0_Holds a0_Holds.length c_a0_Holds] : List Value))) (by kernel_rfl) ty9 hI (by kernel_rfl) (by kernel_rfl) (by kernel_rfl) (by kernel_rfl) (by kernel_rfl) ?_)
  intro w hI
  refine OpsT.done ?_
  refine Qn.then ?_
  refine CodT.seq ?_
  refine CodT.regionL [0, 1] (by kernel_rfl) ?_
  refine OpsT.cons (Does.yi (Yl.load (d := 4) (T := 24) (v := .agg ((([.int .i64 a0_ID, .string a0_Name, .string (⟨#[]⟩ : ByteArray), .bool a0_Sealed, .int .i64 a0_Until, .slice A_a0_Holds a0_Holds.length c_a0_Holds] : List Value))).toArray) (by kernel_rfl) (ldBN ty24 (l := (([.int .i64 a0_ID, .string a0_Name, .string (⟨#[]⟩ : ByteArray), .bool a0_Sealed, .int .i64 a0_Until, .slice A_a0_Holds a0_Holds.length c_a0_Holds] : List Value))) (o := 0) (cs := (([.int .i64 a0_ID, .string a0_Name, .string (⟨#[]⟩ : ByteArray), .bool a0_Sealed, .int .i64 a0_Until, .slice A_a0_Holds a0_Holds.length c_a0_Holds] : List Value))) (ent_refl _) (by kernel_rfl) (whole _ _ (by kernel_rfl)))) hI ?_)
  have hI := hI.mono (pick2 _ _ _)
  refine OpsT.cons (Does.storeLit (T := 24) (b := b2) (o := 0) (v := .agg ((([.int .i64 a0_ID, .string a0_Name, .string (⟨#[]⟩ : ByteArray), .bool a0_Sealed, .int .i64 a0_Until, .slice A_a0_Holds a0_Holds.length c_a0_Holds] : List Value))).toArray) (l := (([.int .i64 0, .string (⟨#[]⟩ : ByteArray), .string (⟨#[]⟩ : ByteArray), .bool false, .int .i64 0, .slice none 0 0] : List Value))) (vs := (([.int .i64 a0_ID, .string a0_Name, .string (⟨#[]⟩ : ByteArray), .bool a0_Sealed, .int .i64 a0_Until, .slice A_a0_Holds a0_Holds.length c_a0_Holds] : List Value))) (L' := (([.int .i64 a0_ID, .string a0_Name, .string (⟨#[]⟩ : ByteArray), .bool a0_Sealed, .int .i64 a0_Until, .slice A_a0_Holds a0_Holds.length c_a0_Holds] : List Value))) (by kernel_rfl) ty24 hI (by kernel_rfl) (by kernel_rfl) (by kernel_rfl) (by kernel_rfl) (by kernel_rfl) ?_)
  intro w hI
  refine OpsT.done ?_
  refine Qn.then ?_
  refine CodT.ret ?_
  have hL3 := (ldBN ty24 (l := (([.int .i64 a0_ID, .string a0_Name, .string (⟨#[]⟩ : ByteArray), .bool a0_Sealed, .int .i64 a0_Until, .slice A_a0_Holds a0_Holds.length c_a0_Holds] : List Value))) (o := 0) (cs := (([.int .i64 a0_ID, .string a0_Name, .string (⟨#[]⟩ : ByteArray), .bool a0_Sealed, .int .i64 a0_Until, .slice A_a0_Holds a0_Holds.length c_a0_Holds] : List Value))) (ent_refl _) (by kernel_rfl) (whole _ _ (by kernel_rfl))) w hI
  have hI := hI.drop
  have hI := hI.drop
  have e := someS h0
  subst e
  refine Qn.keep [2] (S' := [(2, .pointer (some ⟨b2, 0, none⟩))]) (by kernel_rfl) ?_
  exact post_ret (v := .agg ((([.int .i64 a0_ID, .string a0_Name, .string (⟨#[]⟩ : ByteArray), .bool a0_Sealed, .int .i64 a0_Until, .slice A_a0_Holds a0_Holds.length c_a0_Holds] : List Value))).toArray) (fun a ha => RunRes.run (vs := [.agg ((([.int .i64 a0_ID, .string a0_Name, .string (⟨#[]⟩ : ByteArray), .bool a0_Sealed, .int .i64 a0_Until, .slice A_a0_Holds a0_Holds.length c_a0_Holds] : List Value))).toArray]) (.cell (t := 2) (T := 24) (ad := ⟨b2, 0, none⟩) (by kernel_rfl) hL3 .nil) ha (by kernel_rfl)) ⟨A_a0_Holds, c_a0_Holds, Z, Hp.le_refl _, rfl, hr_a0_Holds, hI⟩
set_option maxRecDepth 100000 in
set_option maxHeartbeats 4000000 in
/-- cenotaph/cenotaphlaw08.works -/
theorem c8 (w0 w : World) (Z : Hp) (A : HP) (hI : Inv w0 Z w A) (hT : Tabs Z)  (r : Bool) (h0 : law08_works = some r) :
    Calls prog 8 #[] w (fun e w' => e = .returned (.bool r) ∧ Inv w0 Z w' A) := by
  have e4 := calls_intro (R := (fun e w' => e = .returned (.bool r) ∧ Inv w0 Z w' A)) (w := w) (args := []) (fn := Go.Proofs.Tryd.f8) 84 Go.Proofs.Tryd.func8 (by rfl) Go.Proofs.Tryd.ntmps8 (by kernel_rfl)
  refine e4 ?_
  clear e4
  unfold law08_works at h0
  refine CodT.seq ?_
  refine CodT.regionL [0] (by kernel_rfl) ?_
  refine OpsT.pures (r := []) [0] [] (S' := []) (by kernel_rfl) ?_
  refine OpsT.done ?_
  refine Qn.then ?_
  refine CodT.seq ?_
  refine CodT.regionL [0, 1, 2, 3, 4, 5, 6] (by kernel_rfl) ?_
  obtain ⟨⟨y2, y3, y4, y5, y6, y7, y10⟩, hc1, h0⟩ := bindS h0
  try dsimp only at h0
  refine OpsT.cons (Does.call (d := some 10) (n := 25) (vs := [.int .i64 1, .string (⟨#[120]⟩ : ByteArray)]) (by kernel_rfl) en25 (c25 w0 w _ _ hI hT 1 (⟨#[120]⟩ : ByteArray) _ hc1) ?_)
  rintro e w ⟨A8, cp9, rfl, hI⟩
  refine ⟨_, rfl, ?_⟩
  refine OpsT.pures (r := [4, 5, 6]) [1, 2, 3] [11, 12] (S' := [(11, .agg ((([.int .i64 y2, .string y3, .string y4, .bool y5, .int .i64 y6, .slice A8 y7.length cp9] : List Value))).toArray), (12, .int .i64 y10)]) (by kernel_rfl) ?_
  refine OpsT.cons (Does.allocL (d := 1) (T := 24) ((([.int .i64 0, .string (⟨#[]⟩ : ByteArray), .string (⟨#[]⟩ : ByteArray), .bool false, .int .i64 0, .slice none 0 0] : List Value))) (by kernel_rfl) ty24 hI (by kernel_rfl) ?_)
  intro b11 w hI
  refine OpsT.cons (Does.storeLit (T := 24) (b := b11) (o := 0) (v := .agg ((([.int .i64 y2, .string y3, .string y4, .bool y5, .int .i64 y6, .slice A8 y7.length cp9] : List Value))).toArray) (l := (([.int .i64 0, .string (⟨#[]⟩ : ByteArray), .string (⟨#[]⟩ : ByteArray), .bool false, .int .i64 0, .slice none 0 0] : List Value))) (vs := (([.int .i64 y2, .string y3, .string y4, .bool y5, .int .i64 y6, .slice A8 y7.length cp9] : List Value))) (L' := (([.int .i64 y2, .string y3, .string y4, .bool y5, .int .i64 y6, .slice A8 y7.length cp9] : List Value))) (by kernel_rfl) ty24 hI (by kernel_rfl) (by kernel_rfl) (by kernel_rfl) (by kernel_rfl) (by kernel_rfl) ?_)
  intro w hI
  refine OpsT.pures (r := []) [6] [1, 2] (S' := [(1, .pointer (some ⟨b11, 0, none⟩)), (2, .int .i64 y10)]) (by kernel_rfl) ?_
  refine OpsT.done ?_
  refine Qn.then ?_
  refine CodT.seq ?_
  refine CodT.regionL [0, 1, 2, 3, 4, 5, 6] (by kernel_rfl) ?_
  refine OpsT.cons (Does.yi (Yl.load (d := 14) (T := 24) (v := .agg ((([.int .i64 y2, .string y3, .string y4, .bool y5, .int .i64 y6, .slice A8 y7.length cp9] : List Value))).toArray) (by kernel_rfl) (ldBN ty24 (l := (([.int .i64 y2, .string y3, .string y4, .bool y5, .int .i64 y6, .slice A8 y7.length cp9] : List Value))) (o := 0) (cs := (([.int .i64 y2, .string y3, .string y4, .bool y5, .int .i64 y6, .slice A8 y7.length cp9] : List Value))) (ent_refl _) (by kernel_rfl) (whole _ _ (by kernel_rfl)))) hI ?_)
  have hI := hI.mono (pick2 _ _ _)
  obtain ⟨Z12, hle13, hr14, hI⟩ := ownS_freeze hI
  obtain ⟨⟨y16, y17, y18, y19, y20, y21, y25⟩, hc15, h0⟩ := bindS h0
  try dsimp only at h0
  refine OpsT.cons (Does.call (d := some 15) (n := 26) (vs := [.agg ((([.int .i64 y2, .string y3, .string y4, .bool y5, .int .i64 y6, .slice A8 y7.length cp9] : List Value))).toArray, .string (⟨#[97, 98]⟩ : ByteArray)]) (by kernel_rfl) en26 (c26 w0 w _ _ hI (hT.mono hle13) y2 y3 y4 y5 y6 A8 cp9 y7 hr14 (⟨#[97, 98]⟩ : ByteArray) _ hc15) ?_)
  rintro e w ⟨A22, cp23, Z26, hle27, rfl, hr24, hI⟩
  refine ⟨_, rfl, ?_⟩
  refine OpsT.pures (r := [5, 6]) [2, 3, 4] [1, 2, 16, 17] (S' := [(1, .pointer (some ⟨b11, 0, none⟩)), (2, .int .i64 y10), (16, .agg ((([.int .i64 y16, .string y17, .string y18, .bool y19, .int .i64 y20, .slice A22 y21.length cp23] : List Value))).toArray), (17, .int .i64 y25)]) (by kernel_rfl) ?_
  refine OpsT.cons (Does.storeLit (T := 24) (b := b11) (o := 0) (v := .agg ((([.int .i64 y16, .string y17, .string y18, .bool y19, .int .i64 y20, .slice A22 y21.length cp23] : List Value))).toArray) (l := (([.int .i64 y2, .string y3, .string y4, .bool y5, .int .i64 y6, .slice A8 y7.length cp9] : List Value))) (vs := (([.int .i64 y16, .string y17, .string y18, .bool y19, .int .i64 y20, .slice A22 y21.length cp23] : List Value))) (L' := (([.int .i64 y16, .string y17, .string y18, .bool y19, .int .i64 y20, .slice A22 y21.length cp23] : List Value))) (by kernel_rfl) ty24 hI (by kernel_rfl) (by kernel_rfl) (by kernel_rfl) (by kernel_rfl) (by kernel_rfl) ?_)
  intro w hI
  refine OpsT.pures (r := []) [6] [1, 2, 3] (S' := [(1, .pointer (some ⟨b11, 0, none⟩)), (2, .int .i64 y10), (3, .int .i64 y25)]) (by kernel_rfl) ?_
  refine OpsT.done ?_
  refine Qn.then ?_
  refine CodT.seq ?_
  refine CodT.regionL [0, 1, 2, 3, 4, 5, 6, 7, 8, 9, 10, 11] (by kernel_rfl) ?_
  refine OpsT.cons (Does.yi (Yl.load (d := 19) (T := 24) (v := .agg ((([.int .i64 y16, .string y17, .string y18, .bool y19, .int .i64 y20, .slice A22 y21.length cp23] : List Value))).toArray) (by kernel_rfl) (ldBN ty24 (l := (([.int .i64 y16, .string y17, .string y18, .bool y19, .int .i64 y20, .slice A22 y21.length cp23] : List Value))) (o := 0) (cs := (([.int .i64 y16, .string y17, .string y18, .bool y19, .int .i64 y20, .slice A22 y21.length cp23] : List Value))) (ent_refl _) (by kernel_rfl) (whole _ _ (by kernel_rfl)))) hI ?_)
  refine OpsT.pures (r := [2, 3, 4, 5, 6, 7, 8, 9, 10, 11]) [1] [2, 3, 19, 20] (S' := [(2, .int .i64 y10), (3, .int .i64 y25), (19, .agg ((([.int .i64 y16, .string y17, .string y18, .bool y19, .int .i64 y20, .slice A22 y21.length cp23] : List Value))).toArray), (20, .agg (c_ApiOp (ApiOp.mk 1 (⟨#[]⟩ : ByteArray) (⟨#[99]⟩ : ByteArray) 0 0 0)).toArray)]) (by kernel_rfl) ?_
  obtain ⟨⟨y29, y30, y31, y32, y33, y34, y38, y40⟩, hc28, h0⟩ := bindS h0
  try dsimp only at h0
  refine OpsT.cons (Does.call (d := some 21) (n := 11) (vs := [.agg ((([.int .i64 y16, .string y17, .string y18, .bool y19, .int .i64 y20, .slice A22 y21.length cp23] : List Value))).toArray, .agg (c_ApiOp (ApiOp.mk 1 (⟨#[]⟩ : ByteArray) (⟨#[99]⟩ : ByteArray) 0 0 0)).toArray, .int .i64 0]) (by kernel_rfl) en11 (c11 w0 w _ _ hI (hT.mono (Hp.le_trans hle13 hle27)) y16 y17 y18 y19 y20 A22 cp23 y21 hr24 (ApiOp.mk 1 (⟨#[]⟩ : ByteArray) (⟨#[99]⟩ : ByteArray) 0 0 0) 0 _ hc28) ?_)
  rintro e w ⟨A35, cp36, Z41, hle42, rfl, hr37, hl39, hI⟩
  refine ⟨_, rfl, ?_⟩
  refine OpsT.pures (r := [7, 8, 9, 10, 11]) [3, 4, 5, 6] [2, 3, 22, 23, 24] (S' := [(2, .int .i64 y10), (3, .int .i64 y25), (22, .agg ((([.int .i64 y29, .string y30, .string y31, .bool y32, .int .i64 y33, .slice A35 y34.length cp36] : List Value))).toArray), (23, .agg (c_ApiEvent y38).toArray), (24, .int .i64 y40)]) (by kernel_rfl) ?_
  refine OpsT.cons (Does.allocL (d := 4) (T := 24) ((([.int .i64 0, .string (⟨#[]⟩ : ByteArray), .string (⟨#[]⟩ : ByteArray), .bool false, .int .i64 0, .slice none 0 0] : List Value))) (by kernel_rfl) ty24 hI (by kernel_rfl) ?_)
  intro b43 w hI
  refine OpsT.cons (Does.allocL (d := 5) (T := 35) (c_ApiEvent (ApiEvent.mk 0 0 (⟨#[]⟩ : ByteArray) 0 0 (List.replicate 32 (0 : Int)))) (by kernel_rfl) ty35 hI (by kernel_rfl) ?_)
  intro b44 w hI
  have hI := hI.mono (pick2 _ _ _)
  refine OpsT.cons (Does.storeLit (T := 24) (b := b43) (o := 0) (v := .agg ((([.int .i64 y29, .string y30, .string y31, .bool y32, .int .i64 y33, .slice A35 y34.length cp36] : List Value))).toArray) (l := (([.int .i64 0, .string (⟨#[]⟩ : ByteArray), .string (⟨#[]⟩ : ByteArray), .bool false, .int .i64 0, .slice none 0 0] : List Value))) (vs := (([.int .i64 y29, .string y30, .string y31, .bool y32, .int .i64 y33, .slice A35 y34.length cp36] : List Value))) (L' := (([.int .i64 y29, .string y30, .string y31, .bool y32, .int .i64 y33, .slice A35 y34.length cp36] : List Value))) (by kernel_rfl) ty24 hI (by kernel_rfl) (by kernel_rfl) (by kernel_rfl) (by kernel_rfl) (by kernel_rfl) ?_)
  intro w hI
  have hI := hI.mono (pick2 _ _ _)
  refine OpsT.cons (Does.storeLit (T := 35) (b := b44) (o := 0) (v := .agg (c_ApiEvent y38).toArray) (l := c_ApiEvent (ApiEvent.mk 0 0 (⟨#[]⟩ : ByteArray) 0 0 (List.replicate 32 (0 : Int)))) (vs := c_ApiEvent y38) (L' := c_ApiEvent y38) (by kernel_rfl) ty35 hI (by kernel_rfl) (len_ApiEvent _ hl39) (by rw [(len_ApiEvent _ (by kernel_rfl))]; kernel_rfl) (ones_app _ _ (by kernel_rfl) (ones_cA _)) (lset_all _ _ (Eq.trans (len_ApiEvent _ hl39) (Eq.symm (len_ApiEvent _ (by kernel_rfl))))) ?_)
  intro w hI
  refine OpsT.pures (r := []) [11] [2, 3, 4, 5, 6] (S' := [(2, .int .i64 y10), (3, .int .i64 y25), (4, .pointer (some ⟨b43, 0, none⟩)), (5, .pointer (some ⟨b44, 0, none⟩)), (6, .int .i64 y40)]) (by kernel_rfl) ?_
  refine OpsT.done ?_
  refine Qn.then ?_
  refine CodT.seq ?_
  refine CodT.regionL [0, 1, 2, 3, 4, 5, 6] (by kernel_rfl) ?_
  refine OpsT.cons (Does.yi (Yl.load (d := 26) (T := 24) (v := .agg ((([.int .i64 y29, .string y30, .string y31, .bool y32, .int .i64 y33, .slice A35 y34.length cp36] : List Value))).toArray) (by kernel_rfl) (ldBN ty24 (l := (([.int .i64 y29, .string y30, .string y31, .bool y32, .int .i64 y33, .slice A35 y34.length cp36] : List Value))) (o := 0) (cs := (([.int .i64 y29, .string y30, .string y31, .bool y32, .int .i64 y33, .slice A35 y34.length cp36] : List Value))) (pick2 _ _ _) (by kernel_rfl) (whole _ _ (by kernel_rfl)))) hI ?_)
  obtain ⟨⟨y46, y47⟩, hc45, h0⟩ := bindS h0
  try dsimp only at h0
  refine OpsT.cons (Does.call (d := some 27) (n := 27) (vs := [.agg ((([.int .i64 y29, .string y30, .string y31, .bool y32, .int .i64 y33, .slice A35 y34.length cp36] : List Value))).toArray, .int .i64 1, .int .i64 3]) (by kernel_rfl) en27 (c27 w0 w _ _ hI (hT.mono (Hp.le_trans (Hp.le_trans hle13 hle27) hle42)) y29 y30 y31 y32 y33 A35 cp36 y34 hr37 1 3 _ hc45) ?_)
  rintro e w ⟨rfl, hI⟩
  refine ⟨_, rfl, ?_⟩
  refine OpsT.pures (r := []) [2, 3, 4, 5, 6] [2, 3, 4, 5, 6, 7, 8] (S' := [(2, .int .i64 y10), (3, .int .i64 y25), (4, .pointer (some ⟨b43, 0, none⟩)), (5, .pointer (some ⟨b44, 0, none⟩)), (6, .int .i64 y40), (7, .string y46), (8, .int .i64 y47)]) (by kernel_rfl) ?_
  refine OpsT.done ?_
  refine Qn.then ?_
  obtain ⟨r1, h1, h0⟩ := bindS h0
  refine CodT.meet (fun a w => ∃ (x50 : Bool) (Z48 : Hp), x50 = r1 ∧ Fr 84 [(0, .bool x50)] a ∧ Inv w0 Z48 w A ∧ Z41.le Z48) ?_ ?_
  ·
    refine CodT.regionL [0, 1, 2, 3, 4, 5, 6, 7, 8, 9, 10, 11, 12, 13, 14, 15, 16, 17, 18, 19, 20, 21, 22, 23, 24, 25, 26, 27, 28, 29, 30, 31, 32, 33, 34, 35, 36, 37, 38, 39, 40, 41, 42, 43, 44, 45, 46, 47, 48, 49, 50, 51, 52, 53, 54] (by kernel_rfl) ?_
    refine OpsT.pures (r := [3, 4, 5, 6, 7, 8, 9, 10, 11, 12, 13, 14, 15, 16, 17, 18, 19, 20, 21, 22, 23, 24, 25, 26, 27, 28, 29, 30, 31, 32, 33, 34, 35, 36, 37, 38, 39, 40, 41, 42, 43, 44, 45, 46, 47, 48, 49, 50, 51, 52, 53, 54]) [0, 1, 2] [3, 4, 5, 6, 7, 8, 32] (S' := [(3, .int .i64 y25), (4, .pointer (some ⟨b43, 0, none⟩)), (5, .pointer (some ⟨b44, 0, none⟩)), (6, .int .i64 y40), (7, .string y46), (8, .int .i64 y47), (32, .bool (y10 == 0))]) (by kernel_rfl) ?_
    by_cases hb51 : (y10 == 0) = true
    · rw [if_pos hb51] at h1
      refine OpsT.keep [3, 4, 5, 6, 7, 8, 32] (S' := [(3, .int .i64 y25), (4, .pointer (some ⟨b43, 0, none⟩)), (5, .pointer (some ⟨b44, 0, none⟩)), (6, .int .i64 y40), (7, .string y46), (8, .int .i64 y47), (32, .bool true)]) (by (try simp only [hb51]); kernel_rfl) ?_
      refine OpsT.pures (r := [7, 8, 9, 10, 11, 12, 13, 14, 15, 16, 17, 18, 19, 20, 21, 22, 23, 24, 25, 26, 27, 28, 29, 30, 31, 32, 33, 34, 35, 36, 37, 38, 39, 40, 41, 42, 43, 44, 45, 46, 47, 48, 49, 50, 51, 52, 53, 54]) [3, 4, 5, 6] [4, 5, 6, 7, 8, 36] (S' := [(4, .pointer (some ⟨b43, 0, none⟩)), (5, .pointer (some ⟨b44, 0, none⟩)), (6, .int .i64 y40), (7, .string y46), (8, .int .i64 y47), (36, .bool (y25 == 0))]) (by kernel_rfl) ?_
      by_cases hb52 : (y25 == 0) = true
      · rw [if_pos hb52] at h1
        refine OpsT.keep [4, 5, 6, 7, 8, 36] (S' := [(4, .pointer (some ⟨b43, 0, none⟩)), (5, .pointer (some ⟨b44, 0, none⟩)), (6, .int .i64 y40), (7, .string y46), (8, .int .i64 y47), (36, .bool true)]) (by (try simp only [hb52]); kernel_rfl) ?_
        refine OpsT.pures (r := [11, 12, 13, 14, 15, 16, 17, 18, 19, 20, 21, 22, 23, 24, 25, 26, 27, 28, 29, 30, 31, 32, 33, 34, 35, 36, 37, 38, 39, 40, 41, 42, 43, 44, 45, 46, 47, 48, 49, 50, 51, 52, 53, 54]) [7, 8, 9, 10] [4, 5, 7, 8, 40] (S' := [(4, .pointer (some ⟨b43, 0, none⟩)), (5, .pointer (some ⟨b44, 0, none⟩)), (7, .string y46), (8, .int .i64 y47), (40, .bool (y40 == 0))]) (by kernel_rfl) ?_
        by_cases hb53 : (y40 == 0) = true
        · rw [if_pos hb53] at h1
          refine OpsT.keep [4, 5, 7, 8, 40] (S' := [(4, .pointer (some ⟨b43, 0, none⟩)), (5, .pointer (some ⟨b44, 0, none⟩)), (7, .string y46), (8, .int .i64 y47), (40, .bool true)]) (by (try simp only [hb53]); kernel_rfl) ?_
          refine OpsT.pures (r := [12, 13, 14, 15, 16, 17, 18, 19, 20, 21, 22, 23, 24, 25, 26, 27, 28, 29, 30, 31, 32, 33, 34, 35, 36, 37, 38, 39, 40, 41, 42, 43, 44, 45, 46, 47, 48, 49, 50, 51, 52, 53, 54]) [11] [4, 5, 7, 8, 40, 41] (S' := [(4, .pointer (some ⟨b43, 0, none⟩)), (5, .pointer (some ⟨b44, 0, none⟩)), (7, .string y46), (8, .int .i64 y47), (40, .bool true), (41, .pointer (some ⟨b43, 2, none⟩))]) (by kernel_rfl) ?_
          refine OpsT.cons (Does.yi (Yl.load (d := 42) (T := 9) (v := .string y31) (by kernel_rfl) (ldB ty9 (l := (([.int .i64 y29, .string y30, .string y31, .bool y32, .int .i64 y33, .slice A35 y34.length cp36] : List Value))) (o := 2) (v := .string y31) (pick2 _ _ _) (by kernel_rfl))) hI ?_)
          refine OpsT.pures (r := [16, 17, 18, 19, 20, 21, 22, 23, 24, 25, 26, 27, 28, 29, 30, 31, 32, 33, 34, 35, 36, 37, 38, 39, 40, 41, 42, 43, 44, 45, 46, 47, 48, 49, 50, 51, 52, 53, 54]) [13, 14, 15] [4, 5, 7, 8, 45] (S' := [(4, .pointer (some ⟨b43, 0, none⟩)), (5, .pointer (some ⟨b44, 0, none⟩)), (7, .string y46), (8, .int .i64 y47), (45, .bool (seq y31 (⟨#[97, 98, 99]⟩ : ByteArray)))]) (by kernel_rfl) ?_
          by_cases hb54 : (seq y31 (⟨#[97, 98, 99]⟩ : ByteArray)) = true
          · rw [if_pos hb54] at h1
            refine OpsT.keep [4, 5, 7, 8, 45] (S' := [(4, .pointer (some ⟨b43, 0, none⟩)), (5, .pointer (some ⟨b44, 0, none⟩)), (7, .string y46), (8, .int .i64 y47), (45, .bool true)]) (by (try simp only [hb54]); kernel_rfl) ?_
            refine OpsT.cons (Does.yi (Yl.load (d := 46) (T := 35) (v := .agg (c_ApiEvent y38).toArray) (by kernel_rfl) (ldBN ty35 (l := c_ApiEvent y38) (o := 0) (cs := c_ApiEvent y38) (ent_refl _) (len_ApiEvent _ hl39) (whole _ _ (len_ApiEvent _ hl39)))) hI ?_)
            refine OpsT.pures (r := [18, 19, 20, 21, 22, 23, 24, 25, 26, 27, 28, 29, 30, 31, 32, 33, 34, 35, 36, 37, 38, 39, 40, 41, 42, 43, 44, 45, 46, 47, 48, 49, 50, 51, 52, 53, 54]) [17] [4, 7, 8, 45, 46, 47] (S' := [(4, .pointer (some ⟨b43, 0, none⟩)), (7, .string y46), (8, .int .i64 y47), (45, .bool true), (46, .agg (c_ApiEvent y38).toArray), (47, .agg (c_ApiEvent (ApiEvent.mk 1 1 (⟨#[]⟩ : ByteArray) 0 1 (List.replicate 32 (0 : Int)))).toArray)]) (by kernel_rfl) ?_
            refine OpsT.cons (Does.yi (Yl.eqlS (d := 48) (T := 35) (xs := ([.int .i64 y38.Kind, .int .i64 y38.ID, .string y38.Name, .int .i64 y38.Time, .int .i64 y38.Len] : List Value) ++ (cA (Value.int .u8) y38.Sum)) (ys := ([.int .i64 1, .int .i64 1, .string (⟨#[]⟩ : ByteArray), .int .i64 0, .int .i64 1] : List Value) ++ (cA (Value.int .u8) (List.replicate 32 (0 : Int)))) (r := eq_ApiEvent y38 (ApiEvent.mk 1 1 (⟨#[]⟩ : ByteArray) 0 1 (List.replicate 32 (0 : Int)))) (by kernel_rfl) Go.Proofs.Tryd.underlying35 (by kernel_rfl) (by kernel_rfl) (.cons rfl (part1 (v := .int .i64 y38.Kind) ty29 (by kernel_rfl)) (part1 (v := .int .i64 1) ty29 (by kernel_rfl)) (eqI Go.Proofs.Tryd.underlying29) (.cons rfl (part1 (v := .int .i64 y38.ID) ty3 (by kernel_rfl)) (part1 (v := .int .i64 1) ty3 (by kernel_rfl)) (eqI Go.Proofs.Tryd.underlying3) (.cons rfl (part1 (v := .string y38.Name) ty9 (by kernel_rfl)) (part1 (v := .string (⟨#[]⟩ : ByteArray)) ty9 (by kernel_rfl)) (eqS Go.Proofs.Tryd.underlying9) (.cons rfl (part1 (v := .int .i64 y38.Time) ty3 (by kernel_rfl)) (part1 (v := .int .i64 0) ty3 (by kernel_rfl)) (eqI Go.Proofs.Tryd.underlying3) (.cons rfl (part1 (v := .int .i64 y38.Len) ty3 (by kernel_rfl)) (part1 (v := .int .i64 1) ty3 (by kernel_rfl)) (eqI Go.Proofs.Tryd.underlying3) (.cons rfl (partN ty33 (tail_take _ _ _ _ _ (by kernel_rfl) hl39)) (partN ty33 (tail_take _ _ _ _ _ (by kernel_rfl) (by kernel_rfl))) (eqAr Go.Proofs.Tryd.underlying33 Go.Proofs.Tryd.underlying5 ty5 hl39 (by kernel_rfl)) .nil))))))) hI ?_)
            refine OpsT.pures (r := [21, 22, 23, 24, 25, 26, 27, 28, 29, 30, 31, 32, 33, 34, 35, 36, 37, 38, 39, 40, 41, 42, 43, 44, 45, 46, 47, 48, 49, 50, 51, 52, 53, 54]) [19, 20] [4, 7, 8, 50] (S' := [(4, .pointer (some ⟨b43, 0, none⟩)), (7, .string y46), (8, .int .i64 y47), (50, .bool (eq_ApiEvent y38 (ApiEvent.mk 1 1 (⟨#[]⟩ : ByteArray) 0 1 (List.replicate 32 (0 : Int)))))]) (by kernel_rfl) ?_
            by_cases hb55 : (eq_ApiEvent y38 (ApiEvent.mk 1 1 (⟨#[]⟩ : ByteArray) 0 1 (List.replicate 32 (0 : Int)))) = true
            · rw [if_pos hb55] at h1
              refine OpsT.keep [4, 7, 8, 50] (S' := [(4, .pointer (some ⟨b43, 0, none⟩)), (7, .string y46), (8, .int .i64 y47), (50, .bool true)]) (by (try simp only [hb55]); kernel_rfl) ?_
              refine OpsT.pures (r := [25, 26, 27, 28, 29, 30, 31, 32, 33, 34, 35, 36, 37, 38, 39, 40, 41, 42, 43, 44, 45, 46, 47, 48, 49, 50, 51, 52, 53, 54]) [21, 22, 23, 24] [4, 8, 54] (S' := [(4, .pointer (some ⟨b43, 0, none⟩)), (8, .int .i64 y47), (54, .bool (seq y46 (⟨#[98, 99]⟩ : ByteArray)))]) (by kernel_rfl) ?_
              by_cases hb56 : (seq y46 (⟨#[98, 99]⟩ : ByteArray)) = true
              · rw [if_pos hb56] at h1
                refine OpsT.keep [4, 8, 54] (S' := [(4, .pointer (some ⟨b43, 0, none⟩)), (8, .int .i64 y47), (54, .bool true)]) (by (try simp only [hb56]); kernel_rfl) ?_
                refine OpsT.pures (r := [29, 30, 31, 32, 33, 34, 35, 36, 37, 38, 39, 40, 41, 42, 43, 44, 45, 46, 47, 48, 49, 50, 51, 52, 53, 54]) [25, 26, 27, 28] [4, 58] (S' := [(4, .pointer (some ⟨b43, 0, none⟩)), (58, .bool (y47 == 0))]) (by kernel_rfl) ?_
                by_cases hb57 : (y47 == 0) = true
                · rw [if_pos hb57] at h1
                  refine OpsT.keep [4, 58] (S' := [(4, .pointer (some ⟨b43, 0, none⟩)), (58, .bool true)]) (by (try simp only [hb57]); kernel_rfl) ?_
                  refine OpsT.cons (Does.yi (Yl.load (d := 59) (T := 24) (v := .agg ((([.int .i64 y29, .string y30, .string y31, .bool y32, .int .i64 y33, .slice A35 y34.length cp36] : List Value))).toArray) (by kernel_rfl) (ldBN ty24 (l := (([.int .i64 y29, .string y30, .string y31, .bool y32, .int .i64 y33, .slice A35 y34.length cp36] : List Value))) (o := 0) (cs := (([.int .i64 y29, .string y30, .string y31, .bool y32, .int .i64 y33, .slice A35 y34.length cp36] : List Value))) (pick2 _ _ _) (by kernel_rfl) (whole _ _ (by kernel_rfl)))) hI ?_)
                  obtain ⟨y59, hc58, h1⟩ := bindS h1
                  try dsimp only at h1
                  refine OpsT.cons (Does.call (d := some 60) (n := 9) (vs := [.agg ((([.int .i64 y29, .string y30, .string y31, .bool y32, .int .i64 y33, .slice A35 y34.length cp36] : List Value))).toArray]) (by kernel_rfl) en9 (c9 w0 w _ _ hI (hT.mono (Hp.le_trans (Hp.le_trans hle13 hle27) hle42)) y29 y30 y31 y32 y33 A35 cp36 y34 hr37 _ hc58) ?_)
                  rintro e w ⟨rfl, hI⟩
                  refine ⟨_, rfl, ?_⟩
                  refine OpsT.pures (r := [33, 34, 35, 36, 37, 38, 39, 40, 41, 42, 43, 44, 45, 46, 47, 48, 49, 50, 51, 52, 53, 54]) [31, 32] [4, 62] (S' := [(4, .pointer (some ⟨b43, 0, none⟩)), (62, .bool y59)]) (by kernel_rfl) ?_
                  by_cases hb60 : y59 = true
                  · rw [if_pos hb60] at h1
                    refine OpsT.keep [4, 62] (S' := [(4, .pointer (some ⟨b43, 0, none⟩)), (62, .bool true)]) (by (try simp only [hb60]); kernel_rfl) ?_
                    refine OpsT.cons (Does.yi (Yl.load (d := 63) (T := 24) (v := .agg ((([.int .i64 y29, .string y30, .string y31, .bool y32, .int .i64 y33, .slice A35 y34.length cp36] : List Value))).toArray) (by kernel_rfl) (ldBN ty24 (l := (([.int .i64 y29, .string y30, .string y31, .bool y32, .int .i64 y33, .slice A35 y34.length cp36] : List Value))) (o := 0) (cs := (([.int .i64 y29, .string y30, .string y31, .bool y32, .int .i64 y33, .slice A35 y34.length cp36] : List Value))) (pick2 _ _ _) (by kernel_rfl) (whole _ _ (by kernel_rfl)))) hI ?_)
                    refine OpsT.cons (Does.yi (Yl.load (d := 64) (T := 24) (v := .agg ((([.int .i64 y29, .string y30, .string y31, .bool y32, .int .i64 y33, .slice A35 y34.length cp36] : List Value))).toArray) (by kernel_rfl) (ldBN ty24 (l := (([.int .i64 y29, .string y30, .string y31, .bool y32, .int .i64 y33, .slice A35 y34.length cp36] : List Value))) (o := 0) (cs := (([.int .i64 y29, .string y30, .string y31, .bool y32, .int .i64 y33, .slice A35 y34.length cp36] : List Value))) (pick2 _ _ _) (by kernel_rfl) (whole _ _ (by kernel_rfl)))) hI ?_)
                    obtain ⟨y62, hc61, h1⟩ := bindS h1
                    try dsimp only at h1
                    refine OpsT.cons (Does.call (d := some 65) (n := 12) (vs := [.agg ((([.int .i64 y29, .string y30, .string y31, .bool y32, .int .i64 y33, .slice A35 y34.length cp36] : List Value))).toArray, .agg ((([.int .i64 y29, .string y30, .string y31, .bool y32, .int .i64 y33, .slice A35 y34.length cp36] : List Value))).toArray]) (by kernel_rfl) en12 (c12 w0 w _ _ hI (hT.mono (Hp.le_trans (Hp.le_trans hle13 hle27) hle42)) y29 y30 y31 y32 y33 A35 cp36 y34 hr37 y29 y30 y31 y32 y33 A35 cp36 y34 hr37 _ hc61) ?_)
                    rintro e w ⟨rfl, hI⟩
                    refine ⟨_, rfl, ?_⟩
                    refine OpsT.pures (r := [38, 39, 40, 41, 42, 43, 44, 45, 46, 47, 48, 49, 50, 51, 52, 53, 54]) [36, 37] [4, 67] (S' := [(4, .pointer (some ⟨b43, 0, none⟩)), (67, .bool y62)]) (by kernel_rfl) ?_
                    by_cases hb63 : y62 = true
                    · rw [if_pos hb63] at h1
                      refine OpsT.keep [4, 67] (S' := [(4, .pointer (some ⟨b43, 0, none⟩)), (67, .bool true)]) (by (try simp only [hb63]); kernel_rfl) ?_
                      refine OpsT.cons (Does.yi (Yl.load (d := 68) (T := 24) (v := .agg ((([.int .i64 y29, .string y30, .string y31, .bool y32, .int .i64 y33, .slice A35 y34.length cp36] : List Value))).toArray) (by kernel_rfl) (ldBN ty24 (l := (([.int .i64 y29, .string y30, .string y31, .bool y32, .int .i64 y33, .slice A35 y34.length cp36] : List Value))) (o := 0) (cs := (([.int .i64 y29, .string y30, .string y31, .bool y32, .int .i64 y33, .slice A35 y34.length cp36] : List Value))) (pick2 _ _ _) (by kernel_rfl) (whole _ _ (by kernel_rfl)))) hI ?_)
                      obtain ⟨⟨y65, y66, y67, y68, y69, y70⟩, hc64, h1⟩ := bindS h1
                      try dsimp only at h1
                      refine OpsT.cons (Does.call (d := some 69) (n := 28) (vs := [.agg ((([.int .i64 y29, .string y30, .string y31, .bool y32, .int .i64 y33, .slice A35 y34.length cp36] : List Value))).toArray]) (by kernel_rfl) en28 (c28 w0 w _ _ hI (hT.mono (Hp.le_trans (Hp.le_trans hle13 hle27) hle42)) y29 y30 y31 y32 y33 A35 cp36 y34 hr37 _ hc64) ?_)
                      rintro e w ⟨A71, cp72, Z74, hle75, rfl, hr73, hI⟩
                      refine ⟨_, rfl, ?_⟩
                      refine OpsT.pures (r := [44, 45, 46, 47, 48, 49, 50, 51, 52, 53, 54]) [40, 41, 42, 43] [4, 73] (S' := [(4, .pointer (some ⟨b43, 0, none⟩)), (73, .bool (seq y67 (⟨#[]⟩ : ByteArray)))]) (by kernel_rfl) ?_
                      by_cases hb76 : (seq y67 (⟨#[]⟩ : ByteArray)) = true
                      · rw [if_pos hb76] at h1
                        refine OpsT.keep [4, 73] (S' := [(4, .pointer (some ⟨b43, 0, none⟩)), (73, .bool true)]) (by (try simp only [hb76]); kernel_rfl) ?_
                        refine OpsT.cons (Does.yi (Yl.load (d := 74) (T := 24) (v := .agg ((([.int .i64 y29, .string y30, .string y31, .bool y32, .int .i64 y33, .slice A35 y34.length cp36] : List Value))).toArray) (by kernel_rfl) (ldBN ty24 (l := (([.int .i64 y29, .string y30, .string y31, .bool y32, .int .i64 y33, .slice A35 y34.length cp36] : List Value))) (o := 0) (cs := (([.int .i64 y29, .string y30, .string y31, .bool y32, .int .i64 y33, .slice A35 y34.length cp36] : List Value))) (pick2 _ _ _) (by kernel_rfl) (whole _ _ (by kernel_rfl)))) hI ?_)
                        obtain ⟨⟨y78, y79, y80, y81, y82, y83⟩, hc77, h1⟩ := bindS h1
                        try dsimp only at h1
                        refine OpsT.cons (Does.call (d := some 75) (n := 28) (vs := [.agg ((([.int .i64 y29, .string y30, .string y31, .bool y32, .int .i64 y33, .slice A35 y34.length cp36] : List Value))).toArray]) (by kernel_rfl) en28 (c28 w0 w _ _ hI (hT.mono (Hp.le_trans (Hp.le_trans (Hp.le_trans hle13 hle27) hle42) hle75)) y29 y30 y31 y32 y33 A35 cp36 y34 (hr37.mono hle75) _ hc77) ?_)
                        rintro e w ⟨A84, cp85, Z87, hle88, rfl, hr86, hI⟩
                        refine ⟨_, rfl, ?_⟩
                        refine OpsT.pures (r := [50, 51, 52, 53, 54]) [46, 47, 48, 49] [79] (S' := [(79, .bool (seq y79 (⟨#[120]⟩ : ByteArray)))]) (by kernel_rfl) ?_
                        by_cases hb89 : (seq y79 (⟨#[120]⟩ : ByteArray)) = true
                        · rw [if_pos hb89] at h1
                          refine OpsT.keep [79] (S' := [(79, .bool true)]) (by (try simp only [hb89]); kernel_rfl) ?_
                          refine OpsT.pures (r := [51, 52, 53, 54]) [50] [79, 80] (S' := [(79, .bool true), (80, .agg ((([.int .i64 0, .string (⟨#[]⟩ : ByteArray), .string (⟨#[]⟩ : ByteArray), .bool false, .int .i64 0, .slice none 0 0] : List Value))).toArray)]) (by kernel_rfl) ?_
                          obtain ⟨y91, hc90, h1⟩ := bindS h1
                          try dsimp only at h1
                          refine OpsT.cons (Does.call (d := some 81) (n := 9) (vs := [.agg ((([.int .i64 0, .string (⟨#[]⟩ : ByteArray), .string (⟨#[]⟩ : ByteArray), .bool false, .int .i64 0, .slice none 0 0] : List Value))).toArray]) (by kernel_rfl) en9 (c9 w0 w _ _ hI (hT.mono (Hp.le_trans (Hp.le_trans (Hp.le_trans (Hp.le_trans hle13 hle27) hle42) hle75) hle88)) 0 (⟨#[]⟩ : ByteArray) (⟨#[]⟩ : ByteArray) false 0 none 0 ([] : List ByteArray) (RdS.nil _ _ _ _ _ (Nat.zero_le _)) _ hc90) ?_)
                          rintro e w ⟨rfl, hI⟩
                          refine ⟨_, rfl, ?_⟩
                          refine OpsT.pures (r := []) [52, 53, 54] [0] (S' := [(0, .bool (!y91))]) (by kernel_rfl) ?_
                          refine OpsT.done ?_
                          have hI := hI.drop
                          have hI := hI.drop
                          have hI := hI.drop
                          have e := someS h1
                          subst e
                          exact Qn.thenJ fun a ha => ⟨!y91, Z87, rfl, ha.keep [0] (by kernel_rfl), hI, (Hp.le_trans hle75 hle88)⟩
                        · rw [if_neg hb89] at h1
                          have hb89 : (seq y79 (⟨#[120]⟩ : ByteArray)) = false := by simpa using hb89
                          refine OpsT.keep [79] (S' := [(79, .bool false)]) (by (try simp only [hb89]); kernel_rfl) ?_
                          refine OpsT.pures (r := []) [50, 51, 52, 53, 54] [0] (S' := [(0, .bool false)]) (by kernel_rfl) ?_
                          refine OpsT.done ?_
                          have hI := hI.drop
                          have hI := hI.drop
                          have hI := hI.drop
                          have e := someS h1
                          subst e
                          exact Qn.thenJ fun a ha => ⟨false, Z87, rfl, ha.keep [0] (by kernel_rfl), hI, (Hp.le_trans hle75 hle88)⟩
                      · rw [if_neg hb76] at h1
                        have hb76 : (seq y67 (⟨#[]⟩ : ByteArray)) = false := by simpa using hb76
                        refine OpsT.keep [4, 73] (S' := [(4, .pointer (some ⟨b43, 0, none⟩)), (73, .bool false)]) (by (try simp only [hb76]); kernel_rfl) ?_
                        refine OpsT.pures (r := []) [44, 45, 46, 47, 48, 49, 50, 51, 52, 53, 54] [0] (S' := [(0, .bool false)]) (by kernel_rfl) ?_
                        refine OpsT.done ?_
                        have hI := hI.drop
                        have hI := hI.drop
                        have hI := hI.drop
                        have e := someS h1
                        subst e
                        exact Qn.thenJ fun a ha => ⟨false, Z74, rfl, ha.keep [0] (by kernel_rfl), hI, hle75⟩
                    · rw [if_neg hb63] at h1
                      have hb63 : y62 = false := by simpa using hb63
                      refine OpsT.keep [4, 67] (S' := [(4, .pointer (some ⟨b43, 0, none⟩)), (67, .bool false)]) (by (try simp only [hb63]); kernel_rfl) ?_
                      refine OpsT.pures (r := []) [38, 39, 40, 41, 42, 43, 44, 45, 46, 47, 48, 49, 50, 51, 52, 53, 54] [0] (S' := [(0, .bool false)]) (by kernel_rfl) ?_
                      refine OpsT.done ?_
                      have hI := hI.drop
                      have hI := hI.drop
                      have hI := hI.drop
                      have e := someS h1
                      subst e
                      exact Qn.thenJ fun a ha => ⟨false, Z41, rfl, ha.keep [0] (by kernel_rfl), hI, (Hp.le_refl _)⟩
                  · rw [if_neg hb60] at h1
                    have hb60 : y59 = false := by simpa using hb60
                    refine OpsT.keep [4, 62] (S' := [(4, .pointer (some ⟨b43, 0, none⟩)), (62, .bool false)]) (by (try simp only [hb60]); kernel_rfl) ?_
                    refine OpsT.pures (r := []) [33, 34, 35, 36, 37, 38, 39, 40, 41, 42, 43, 44, 45, 46, 47, 48, 49, 50, 51, 52, 53, 54] [0] (S' := [(0, .bool false)]) (by kernel_rfl) ?_
                    refine OpsT.done ?_
                    have hI := hI.drop
                    have hI := hI.drop
                    have hI := hI.drop
                    have e := someS h1
                    subst e
                    exact Qn.thenJ fun a ha => ⟨false, Z41, rfl, ha.keep [0] (by kernel_rfl), hI, (Hp.le_refl _)⟩
                · rw [if_neg hb57] at h1
                  have hb57 : (y47 == 0) = false := by simpa using hb57
                  refine OpsT.keep [4, 58] (S' := [(4, .pointer (some ⟨b43, 0, none⟩)), (58, .bool false)]) (by (try simp only [hb57]); kernel_rfl) ?_
                  refine OpsT.pures (r := []) [29, 30, 31, 32, 33, 34, 35, 36, 37, 38, 39, 40, 41, 42, 43, 44, 45, 46, 47, 48, 49, 50, 51, 52, 53, 54] [0] (S' := [(0, .bool false)]) (by kernel_rfl) ?_
                  refine OpsT.done ?_
                  have hI := hI.drop
                  have hI := hI.drop
                  have hI := hI.drop
                  have e := someS h1
                  subst e
                  exact Qn.thenJ fun a ha => ⟨false, Z41, rfl, ha.keep [0] (by kernel_rfl), hI, (Hp.le_refl _)⟩
              · rw [if_neg hb56] at h1
                have hb56 : (seq y46 (⟨#[98, 99]⟩ : ByteArray)) = false := by simpa using hb56
                refine OpsT.keep [4, 8, 54] (S' := [(4, .pointer (some ⟨b43, 0, none⟩)), (8, .int .i64 y47), (54, .bool false)]) (by (try simp only [hb56]); kernel_rfl) ?_
                refine OpsT.pures (r := []) [25, 26, 27, 28, 29, 30, 31, 32, 33, 34, 35, 36, 37, 38, 39, 40, 41, 42, 43, 44, 45, 46, 47, 48, 49, 50, 51, 52, 53, 54] [0] (S' := [(0, .bool false)]) (by kernel_rfl) ?_
                refine OpsT.done ?_
                have hI := hI.drop
                have hI := hI.drop
                have hI := hI.drop
                have e := someS h1
                subst e
                exact Qn.thenJ fun a ha => ⟨false, Z41, rfl, ha.keep [0] (by kernel_rfl), hI, (Hp.le_refl _)⟩
            · rw [if_neg hb55] at h1
              have hb55 : (eq_ApiEvent y38 (ApiEvent.mk 1 1 (⟨#[]⟩ : ByteArray) 0 1 (List.replicate 32 (0 : Int)))) = false := by simpa using hb55
              refine OpsT.keep [4, 7, 8, 50] (S' := [(4, .pointer (some ⟨b43, 0, none⟩)), (7, .string y46), (8, .int .i64 y47), (50, .bool false)]) (by (try simp only [hb55]); kernel_rfl) ?_
              refine OpsT.pures (r := []) [21, 22, 23, 24, 25, 26, 27, 28, 29, 30, 31, 32, 33, 34, 35, 36, 37, 38, 39, 40, 41, 42, 43, 44, 45, 46, 47, 48, 49, 50, 51, 52, 53, 54] [0] (S' := [(0, .bool false)]) (by kernel_rfl) ?_
              refine OpsT.done ?_
              have hI := hI.drop
              have hI := hI.drop
              have hI := hI.drop
              have e := someS h1
              subst e
              exact Qn.thenJ fun a ha => ⟨false, Z41, rfl, ha.keep [0] (by kernel_rfl), hI, (Hp.le_refl _)⟩
          · rw [if_neg hb54] at h1
            have hb54 : (seq y31 (⟨#[97, 98, 99]⟩ : ByteArray)) = false := by simpa using hb54
            refine OpsT.keep [4, 5, 7, 8, 45] (S' := [(4, .pointer (some ⟨b43, 0, none⟩)), (5, .pointer (some ⟨b44, 0, none⟩)), (7, .string y46), (8, .int .i64 y47), (45, .bool false)]) (by (try simp only [hb54]); kernel_rfl) ?_
            refine OpsT.pures (r := []) [16, 17, 18, 19, 20, 21, 22, 23, 24, 25, 26, 27, 28, 29, 30, 31, 32, 33, 34, 35, 36, 37, 38, 39, 40, 41, 42, 43, 44, 45, 46, 47, 48, 49, 50, 51, 52, 53, 54] [0] (S' := [(0, .bool false)]) (by kernel_rfl) ?_
            refine OpsT.done ?_
            have hI := hI.drop
            have hI := hI.drop
            have hI := hI.drop
            have e := someS h1
            subst e
            exact Qn.thenJ fun a ha => ⟨false, Z41, rfl, ha.keep [0] (by kernel_rfl), hI, (Hp.le_refl _)⟩
        · rw [if_neg hb53] at h1
          have hb53 : (y40 == 0) = false := by simpa using hb53
          refine OpsT.keep [4, 5, 7, 8, 40] (S' := [(4, .pointer (some ⟨b43, 0, none⟩)), (5, .pointer (some ⟨b44, 0, none⟩)), (7, .string y46), (8, .int .i64 y47), (40, .bool false)]) (by (try simp only [hb53]); kernel_rfl) ?_
          refine OpsT.pures (r := []) [11, 12, 13, 14, 15, 16, 17, 18, 19, 20, 21, 22, 23, 24, 25, 26, 27, 28, 29, 30, 31, 32, 33, 34, 35, 36, 37, 38, 39, 40, 41, 42, 43, 44, 45, 46, 47, 48, 49, 50, 51, 52, 53, 54] [0] (S' := [(0, .bool false)]) (by kernel_rfl) ?_
          refine OpsT.done ?_
          have hI := hI.drop
          have hI := hI.drop
          have hI := hI.drop
          have e := someS h1
          subst e
          exact Qn.thenJ fun a ha => ⟨false, Z41, rfl, ha.keep [0] (by kernel_rfl), hI, (Hp.le_refl _)⟩
      · rw [if_neg hb52] at h1
        have hb52 : (y25 == 0) = false := by simpa using hb52
        refine OpsT.keep [4, 5, 6, 7, 8, 36] (S' := [(4, .pointer (some ⟨b43, 0, none⟩)), (5, .pointer (some ⟨b44, 0, none⟩)), (6, .int .i64 y40), (7, .string y46), (8, .int .i64 y47), (36, .bool false)]) (by (try simp only [hb52]); kernel_rfl) ?_
        refine OpsT.pures (r := []) [7, 8, 9, 10, 11, 12, 13, 14, 15, 16, 17, 18, 19, 20, 21, 22, 23, 24, 25, 26, 27, 28, 29, 30, 31, 32, 33, 34, 35, 36, 37, 38, 39, 40, 41, 42, 43, 44, 45, 46, 47, 48, 49, 50, 51, 52, 53, 54] [0] (S' := [(0, .bool false)]) (by kernel_rfl) ?_
        refine OpsT.done ?_
        have hI := hI.drop
        have hI := hI.drop
        have hI := hI.drop
        have e := someS h1
        subst e
        exact Qn.thenJ fun a ha => ⟨false, Z41, rfl, ha.keep [0] (by kernel_rfl), hI, (Hp.le_refl _)⟩
    · rw [if_neg hb51] at h1
      have hb51 : (y10 == 0) = false := by simpa using hb51
      refine OpsT.keep [3, 4, 5, 6, 7, 8, 32] (S' := [(3, .int .i64 y25), (4, .pointer (some ⟨b43, 0, none⟩)), (5, .pointer (some ⟨b44, 0, none⟩)), (6, .int .i64 y40), (7, .string y46), (8, .int .i64 y47), (32, .bool false)]) (by (try simp only [hb51]); kernel_rfl) ?_
      refine OpsT.pures (r := []) [3, 4, 5, 6, 7, 8, 9, 10, 11, 12, 13, 14, 15, 16, 17, 18, 19, 20, 21, 22, 23, 24, 25, 26, 27, 28, 29, 30, 31, 32, 33, 34, 35, 36, 37, 38, 39, 40, 41, 42, 43, 44, 45, 46, 47, 48, 49, 50, 51, 52, 53, 54] [0] (S' := [(0, .bool false)]) (by kernel_rfl) ?_
      refine OpsT.done ?_
      have hI := hI.drop
      have hI := hI.drop
      have hI := hI.drop
      have e := someS h1
      subst e
      exact Qn.thenJ fun a ha => ⟨false, Z41, rfl, ha.keep [0] (by kernel_rfl), hI, (Hp.le_refl _)⟩
  ·
    rintro a w ⟨x50, Z48, rfl, ha, hI, hle49⟩
    try dsimp only at h0
    refine CodT.of ?_ ha
    refine CodT.ret ?_
    have e := someS h0
    subst e
    refine Qn.keep [0] (S' := [(0, .bool x50)]) (by kernel_rfl) ?_
    exact post_ret (v := .bool x50) (fun a ha => RunRes.run (vs := [.bool x50]) (.tmp (t := 0) (by kernel_rfl) .nil) ha (by kernel_rfl)) ⟨rfl, hI.weaken (Hp.le_trans (Hp.le_trans (Hp.le_trans hle13 hle27) hle42) hle49)⟩
set_option maxRecDepth 100000 in
set_option maxHeartbeats 4000000 in
/-- cenotaph/cenotaphlaw07.Few -/
theorem c32 (w0 w : World) (Z : Hp) (A : HP) (hI : Inv w0 Z w A) (hT : Tabs Z) (a0_ID : Int) (a0_Name : ByteArray) (a0_Data : ByteArray) (a0_Sealed : Bool) (a0_Until : Int) (A_a0_Holds : Option Addr) (c_a0_Holds : Nat) (a0_Holds : (List ByteArray)) (hr_a0_Holds : RdS Z cS 1 A_a0_Holds c_a0_Holds a0_Holds) (r : Bool) (h0 : law07_Few a0_ID a0_Name a0_Data a0_Sealed a0_Until a0_Holds = some r) :
    Calls prog 32 #[.agg ((([.int .i64 a0_ID, .string a0_Name, .string a0_Data, .bool a0_Sealed, .int .i64 a0_Until, .slice A_a0_Holds a0_Holds.length c_a0_Holds] : List Value))).toArray] w (fun e w' => e = .returned (.bool r) ∧ Inv w0 Z w' A) := by
  have e4 := calls_intro (R := (fun e w' => e = .returned (.bool r) ∧ Inv w0 Z w' A)) (w := w) (args := [.agg ((([.int .i64 a0_ID, .string a0_Name, .string a0_Data, .bool a0_Sealed, .int .i64 a0_Until, .slice A_a0_Holds a0_Holds.length c_a0_Holds] : List Value))).toArray]) (fn := Go.Proofs.Tryd.f32) 38 Go.Proofs.Tryd.func32 (by rfl) Go.Proofs.Tryd.ntmps32 (by kernel_rfl)
  refine e4 ?_
  clear e4
  unfold law07_Few at h0
  refine CodT.seq ?_
  refine CodT.regionL [0, 1] (by kernel_rfl) ?_
  refine OpsT.cons (Does.boxL (d := 1) (T := 24) (v := .agg ((([.int .i64 a0_ID, .string a0_Name, .string a0_Data, .bool a0_Sealed, .int .i64 a0_Until, .slice A_a0_Holds a0_Holds.length c_a0_Holds] : List Value))).toArray) ((([.int .i64 a0_ID, .string a0_Name, .string a0_Data, .bool a0_Sealed, .int .i64 a0_Until, .slice A_a0_Holds a0_Holds.length c_a0_Holds] : List Value))) (by kernel_rfl) hI (by kernel_rfl) ?_)
  intro b1 w hI
  refine OpsT.pures (r := []) [1] [1] (S' := [(1, .pointer (some ⟨b1, 0, none⟩))]) (by kernel_rfl) ?_
  refine OpsT.done ?_
  refine Qn.then ?_
  refine CodT.seq ?_
  refine CodT.seq ?_
  refine CodT.regionL [0] (by kernel_rfl) ?_
  refine OpsT.pures (r := []) [0] [1, 3] (S' := [(1, .pointer (some ⟨b1, 0, none⟩)), (3, .int .i64 0)]) (by kernel_rfl) ?_
  refine OpsT.done ?_
  refine Qn.then ?_
  obtain ⟨r1, h1, h0⟩ := bindS h0
  refine CodT.meet1 (fun a w => .inr () = r1 ∧ Fr 38 [(1, .pointer (some ⟨b1, 0, none⟩))] a ∧ Inv w0 Z w (star (pt b1 (.cells ((([.int .i64 a0_ID, .string a0_Name, .string a0_Data, .bool a0_Sealed, .int .i64 a0_Until, .slice A_a0_Holds a0_Holds.length c_a0_Holds] : List Value))).toArray 24 (0, 0))) A)) ?_ ?_
  ·
    refine CodT.block ?_
    refine (fun a ha => wp_loopN (fun k a w => ∃ (x2 : Int), law07_Few.l0 a0_Holds k x2 = some r1 ∧ Fr 38 [(1, .pointer (some ⟨b1, 0, none⟩)), (3, .int .i64 x2)] a ∧ Inv w0 Z w (star (pt b1 (.cells ((([.int .i64 a0_ID, .string a0_Name, .string a0_Data, .bool a0_Sealed, .int .i64 a0_Until, .slice A_a0_Holds a0_Holds.length c_a0_Holds] : List Value))).toArray 24 (0, 0))) A)) ?_ FU a w ⟨0, h1, ha.keep [1, 3] (by kernel_rfl), hI⟩)
    clear h1 hI
    rintro k a w ⟨x2, h1, ha, hI⟩
    rcases k with _ | k
    · cases h1
    simp only [law07_Few.l0] at h1
    refine CodT.of ?_ ha
    refine CodT.seq ?_
    obtain ⟨r2, h2, h1⟩ := bindS h1
    refine CodT.meet (fun a w => ∃ (x3 : Bool), x3 = r2 ∧ Fr 38 [(1, .pointer (some ⟨b1, 0, none⟩)), (3, .int .i64 x2), (12, .bool x3)] a ∧ Inv w0 Z w (star (pt b1 (.cells ((([.int .i64 a0_ID, .string a0_Name, .string a0_Data, .bool a0_Sealed, .int .i64 a0_Until, .slice A_a0_Holds a0_Holds.length c_a0_Holds] : List Value))).toArray 24 (0, 0))) A)) ?_ ?_
    ·
      refine CodT.regionL [0, 1, 2, 3, 4, 5, 6, 7, 8] (by kernel_rfl) ?_
      refine OpsT.pures (r := [2, 3, 4, 5, 6, 7, 8]) [0, 1] [1, 3, 4, 5] (S' := [(1, .pointer (some ⟨b1, 0, none⟩)), (3, .int .i64 x2), (4, .int .i64 x2), (5, .pointer (some ⟨b1, 5, none⟩))]) (by kernel_rfl) ?_
      refine OpsT.cons (Does.yi (Yl.load (d := 6) (T := 22) (v := .slice A_a0_Holds a0_Holds.length c_a0_Holds) (by kernel_rfl) (ldB ty22 (l := (([.int .i64 a0_ID, .string a0_Name, .string a0_Data, .bool a0_Sealed, .int .i64 a0_Until, .slice A_a0_Holds a0_Holds.length c_a0_Holds] : List Value))) (o := 5) (v := .slice A_a0_Holds a0_Holds.length c_a0_Holds) (ent_refl _) (by kernel_rfl))) hI ?_)
      refine OpsT.pures (r := [6, 7, 8]) [3, 4, 5] [1, 3, 9] (S' := [(1, .pointer (some ⟨b1, 0, none⟩)), (3, .int .i64 x2), (9, .bool (decide (x2 < (a0_Holds.length : Int))))]) (by kernel_rfl) ?_
      by_cases hb4 : (decide (x2 < (a0_Holds.length : Int))) = true
      · rw [if_pos hb4] at h2
        refine OpsT.keep [1, 3, 9] (S' := [(1, .pointer (some ⟨b1, 0, none⟩)), (3, .int .i64 x2), (9, .bool true)]) (by (try simp only [hb4]); kernel_rfl) ?_
        refine OpsT.pures (r := []) [6, 7, 8] [1, 3, 12] (S' := [(1, .pointer (some ⟨b1, 0, none⟩)), (3, .int .i64 x2), (12, .bool (decide (x2 ≤ 200)))]) (by kernel_rfl) ?_
        refine OpsT.done ?_
        have e := someS h2
        subst e
        exact Qn.thenJ fun a ha => ⟨decide (x2 ≤ 200), rfl, ha.keep [1, 3, 12] (by kernel_rfl), hI⟩
      · rw [if_neg hb4] at h2
        have hb4 : (decide (x2 < (a0_Holds.length : Int))) = false := by simpa using hb4
        refine OpsT.keep [1, 3, 9] (S' := [(1, .pointer (some ⟨b1, 0, none⟩)), (3, .int .i64 x2), (9, .bool false)]) (by (try simp only [hb4]); kernel_rfl) ?_
        refine OpsT.pures (r := []) [6, 7, 8] [1, 3, 12] (S' := [(1, .pointer (some ⟨b1, 0, none⟩)), (3, .int .i64 x2), (12, .bool false)]) (by kernel_rfl) ?_
        refine OpsT.done ?_
        have e := someS h2
        subst e
        exact Qn.thenJ fun a ha => ⟨false, rfl, ha.keep [1, 3, 12] (by kernel_rfl), hI⟩
    ·
      rintro a w ⟨x3, rfl, ha, hI⟩
      try dsimp only at h1
      refine CodT.of ?_ ha
      by_cases hb5 : x3 = true
      · rw [if_pos hb5] at h1
        refine CodT.yes' (b := x3) (by kernel_rfl) hb5 ?_
        refine CodT.skip ?_
        refine Qn.then ?_
        refine CodT.seq ?_
        refine CodT.block ?_
        refine CodT.seq ?_
        refine CodT.regionL [0, 1, 2, 3, 4, 5, 6] (by kernel_rfl) ?_
        refine OpsT.pures (r := [1, 2, 3, 4, 5, 6]) [0] [1, 3, 15] (S' := [(1, .pointer (some ⟨b1, 0, none⟩)), (3, .int .i64 x2), (15, .pointer (some ⟨b1, 5, none⟩))]) (by kernel_rfl) ?_
        refine OpsT.cons (Does.yi (Yl.load (d := 16) (T := 22) (v := .slice A_a0_Holds a0_Holds.length c_a0_Holds) (by kernel_rfl) (ldB ty22 (l := (([.int .i64 a0_ID, .string a0_Name, .string a0_Data, .bool a0_Sealed, .int .i64 a0_Until, .slice A_a0_Holds a0_Holds.length c_a0_Holds] : List Value))) (o := 5) (v := .slice A_a0_Holds a0_Holds.length c_a0_Holds) (ent_refl _) (by kernel_rfl))) hI ?_)
        refine OpsT.pures (r := [3, 4, 5, 6]) [2] [1, 3, 16, 17] (S' := [(1, .pointer (some ⟨b1, 0, none⟩)), (3, .int .i64 x2), (16, .slice A_a0_Holds a0_Holds.length c_a0_Holds), (17, .int .i64 x2)]) (by kernel_rfl) ?_
        obtain ⟨hg6, h1⟩ := guardS h1
        obtain ⟨g7, o11, hA8, hr9, hl10⟩ := RdS.get hr_a0_Holds hg6.1 hg6.2
        refine OpsT.cons (Does.yi (Yl.indexSlice (d := 18) (T := 22) (cc := c_a0_Holds) (k := .i64) (j := x2) (g := g7) (o := o11) (by kernel_rfl) Go.Proofs.Tryd.underlying22 ty9 hA8 hg6.1 hg6.2) hI ?_)
        refine OpsT.cons (Does.yi (Yl.load (d := 19) (T := 9) (v := .string (gt a0_Holds x2)) (by kernel_rfl) (ldR ty9 (v := .string (gt a0_Holds x2)) 0 (fun w hC => hr9 w0 w _ hC) (by kernel_rfl))) hI ?_)
        refine OpsT.pures (r := []) [5, 6] [1, 3, 21] (S' := [(1, .pointer (some ⟨b1, 0, none⟩)), (3, .int .i64 x2), (21, .bool (decide (((gt a0_Holds x2).size : Int) > 200)))]) (by kernel_rfl) ?_
        refine OpsT.done ?_
        refine Qn.then ?_
        by_cases hb12 : (decide (((gt a0_Holds x2).size : Int) > 200)) = true
        · rw [if_pos hb12] at h1
          refine CodT.yes' (b := decide (((gt a0_Holds x2).size : Int) > 200)) (by kernel_rfl) hb12 ?_
          refine CodT.seq ?_
          refine CodT.regionL [0] (by kernel_rfl) ?_
          refine OpsT.pures (r := []) [0] [2] (S' := [(2, .bool false)]) (by kernel_rfl) ?_
          refine OpsT.done ?_
          refine Qn.then ?_
          refine CodT.ret ?_
          refine Qn.block_ret ?_
          refine Qn.ret_then ?_
          refine Qn.ret_then ?_
          refine Qn.block_ret ?_
          refine Qn.ret_then ?_
          refine Qn.ret_then ?_
          have hI := hI.drop
          have e := someS h1
          subst e
          try dsimp only at h0
          have e := someS h0
          subst e
          refine Qn.keep [2] (S' := [(2, .bool false)]) (by kernel_rfl) ?_
          exact post_ret (v := .bool false) (fun a ha => RunRes.run (vs := [.bool false]) (.tmp (t := 2) (by kernel_rfl) .nil) ha (by kernel_rfl)) ⟨rfl, hI⟩
        · rw [if_neg hb12] at h1
          refine CodT.no' (b := decide (((gt a0_Holds x2).size : Int) > 200)) (by kernel_rfl) (by simpa using hb12) ?_
          refine CodT.skip ?_
          refine Qn.block_normal ?_
          refine Qn.then ?_
          refine CodT.regionL [0, 1, 2] (by kernel_rfl) ?_
          refine OpsT.pures (r := []) [0, 1, 2] [1, 3] (S' := [(1, .pointer (some ⟨b1, 0, none⟩)), (3, .int .i64 (wi64 (x2 + 1)))]) (by kernel_rfl) ?_
          refine OpsT.done ?_
          exact Qn.thenJ fun a ha => ⟨k, Nat.lt_succ_self k, wi64 (x2 + 1), h1, ha.keep [1, 3] (by kernel_rfl), hI⟩
      · rw [if_neg hb5] at h1
        refine CodT.no' (b := x3) (by kernel_rfl) (by simpa using hb5) ?_
        refine CodT.exit ?_
        refine Qn.exit_then ?_
        refine Qn.exit_then ?_
        refine Qn.block ?_
        have e := someS h1
        subst e
        exact Qn.thenJ fun a ha => ⟨rfl, ha.keep [1] (by kernel_rfl), hI⟩
  ·
    rintro a w ⟨rfl, ha, hI⟩
    try dsimp only at h0
    refine Qn.of ?_ ha
    refine Qn.then ?_
    obtain ⟨r1, h1, h0⟩ := bindS h0
    refine CodT.meet (fun a w => ∃ (x13 : Bool), x13 = r1 ∧ Fr 38 [(2, .bool x13)] a ∧ Inv w0 Z w A) ?_ ?_
    ·
      refine CodT.regionL [0, 1, 2, 3, 4, 5, 6, 7, 8, 9, 10, 11, 12, 13, 14, 15, 16] (by kernel_rfl) ?_
      refine OpsT.pures (r := [1, 2, 3, 4, 5, 6, 7, 8, 9, 10, 11, 12, 13, 14, 15, 16]) [0] [1, 22] (S' := [(1, .pointer (some ⟨b1, 0, none⟩)), (22, .pointer (some ⟨b1, 5, none⟩))]) (by kernel_rfl) ?_
      refine OpsT.cons (Does.yi (Yl.load (d := 23) (T := 22) (v := .slice A_a0_Holds a0_Holds.length c_a0_Holds) (by kernel_rfl) (ldB ty22 (l := (([.int .i64 a0_ID, .string a0_Name, .string a0_Data, .bool a0_Sealed, .int .i64 a0_Until, .slice A_a0_Holds a0_Holds.length c_a0_Holds] : List Value))) (o := 5) (v := .slice A_a0_Holds a0_Holds.length c_a0_Holds) (ent_refl _) (by kernel_rfl))) hI ?_)
      refine OpsT.pures (r := [5, 6, 7, 8, 9, 10, 11, 12, 13, 14, 15, 16]) [2, 3, 4] [1, 26] (S' := [(1, .pointer (some ⟨b1, 0, none⟩)), (26, .bool (decide ((a0_Holds.length : Int) ≤ 200)))]) (by kernel_rfl) ?_
      by_cases hb14 : (decide ((a0_Holds.length : Int) ≤ 200)) = true
      · rw [if_pos hb14] at h1
        refine OpsT.keep [1, 26] (S' := [(1, .pointer (some ⟨b1, 0, none⟩)), (26, .bool true)]) (by (try simp only [hb14]); kernel_rfl) ?_
        refine OpsT.pures (r := [6, 7, 8, 9, 10, 11, 12, 13, 14, 15, 16]) [5] [1, 26, 27] (S' := [(1, .pointer (some ⟨b1, 0, none⟩)), (26, .bool true), (27, .pointer (some ⟨b1, 2, none⟩))]) (by kernel_rfl) ?_
        refine OpsT.cons (Does.yi (Yl.load (d := 28) (T := 9) (v := .string a0_Data) (by kernel_rfl) (ldB ty9 (l := (([.int .i64 a0_ID, .string a0_Name, .string a0_Data, .bool a0_Sealed, .int .i64 a0_Until, .slice A_a0_Holds a0_Holds.length c_a0_Holds] : List Value))) (o := 2) (v := .string a0_Data) (ent_refl _) (by kernel_rfl))) hI ?_)
        refine OpsT.pures (r := [11, 12, 13, 14, 15, 16]) [7, 8, 9, 10] [1, 32] (S' := [(1, .pointer (some ⟨b1, 0, none⟩)), (32, .bool (decide ((a0_Data.size : Int) ≤ 2000)))]) (by kernel_rfl) ?_
        by_cases hb15 : (decide ((a0_Data.size : Int) ≤ 2000)) = true
        · rw [if_pos hb15] at h1
          refine OpsT.keep [1, 32] (S' := [(1, .pointer (some ⟨b1, 0, none⟩)), (32, .bool true)]) (by (try simp only [hb15]); kernel_rfl) ?_
          refine OpsT.pures (r := [12, 13, 14, 15, 16]) [11] [32, 33] (S' := [(32, .bool true), (33, .pointer (some ⟨b1, 1, none⟩))]) (by kernel_rfl) ?_
          refine OpsT.cons (Does.yi (Yl.load (d := 34) (T := 9) (v := .string a0_Name) (by kernel_rfl) (ldB ty9 (l := (([.int .i64 a0_ID, .string a0_Name, .string a0_Data, .bool a0_Sealed, .int .i64 a0_Until, .slice A_a0_Holds a0_Holds.length c_a0_Holds] : List Value))) (o := 1) (v := .string a0_Name) (ent_refl _) (by kernel_rfl))) hI ?_)
          refine OpsT.pures (r := []) [13, 14, 15, 16] [2] (S' := [(2, .bool (decide ((a0_Name.size : Int) ≤ 200)))]) (by kernel_rfl) ?_
          refine OpsT.done ?_
          have hI := hI.drop
          have e := someS h1
          subst e
          exact Qn.thenJ fun a ha => ⟨decide ((a0_Name.size : Int) ≤ 200), rfl, ha.keep [2] (by kernel_rfl), hI⟩
        · rw [if_neg hb15] at h1
          have hb15 : (decide ((a0_Data.size : Int) ≤ 2000)) = false := by simpa using hb15
          refine OpsT.keep [1, 32] (S' := [(1, .pointer (some ⟨b1, 0, none⟩)), (32, .bool false)]) (by (try simp only [hb15]); kernel_rfl) ?_
          refine OpsT.pures (r := []) [11, 12, 13, 14, 15, 16] [2] (S' := [(2, .bool false)]) (by kernel_rfl) ?_
          refine OpsT.done ?_
          have hI := hI.drop
          have e := someS h1
          subst e
          exact Qn.thenJ fun a ha => ⟨false, rfl, ha.keep [2] (by kernel_rfl), hI⟩
      · rw [if_neg hb14] at h1
        have hb14 : (decide ((a0_Holds.length : Int) ≤ 200)) = false := by simpa using hb14
        refine OpsT.keep [1, 26] (S' := [(1, .pointer (some ⟨b1, 0, none⟩)), (26, .bool false)]) (by (try simp only [hb14]); kernel_rfl) ?_
        refine OpsT.pures (r := []) [5, 6, 7, 8, 9, 10, 11, 12, 13, 14, 15, 16] [2] (S' := [(2, .bool false)]) (by kernel_rfl) ?_
        refine OpsT.done ?_
        have hI := hI.drop
        have e := someS h1
        subst e
        exact Qn.thenJ fun a ha => ⟨false, rfl, ha.keep [2] (by kernel_rfl), hI⟩
    ·
      rintro a w ⟨x13, rfl, ha, hI⟩
      try dsimp only at h0
      refine CodT.of ?_ ha
      refine CodT.ret ?_
      have e := someS h0
      subst e
      refine Qn.keep [2] (S' := [(2, .bool x13)]) (by kernel_rfl) ?_
      exact post_ret (v := .bool x13) (fun a ha => RunRes.run (vs := [.bool x13]) (.tmp (t := 2) (by kernel_rfl) .nil) ha (by kernel_rfl)) ⟨rfl, hI⟩
set_option maxRecDepth 100000 in
set_option maxHeartbeats 4000000 in
/-- cenotaph/cenotaphlaw08.few -/
theorem c10 (w0 w : World) (Z : Hp) (A : HP) (hI : Inv w0 Z w A) (hT : Tabs Z) (a0_ID : Int) (a0_Name : ByteArray) (a0_Data : ByteArray) (a0_Sealed : Bool) (a0_Until : Int) (A_a0_Holds : Option Addr) (c_a0_Holds : Nat) (a0_Holds : (List ByteArray)) (hr_a0_Holds : RdS Z cS 1 A_a0_Holds c_a0_Holds a0_Holds) (a1 : ApiOp) (r : Bool) (h0 : law08_few a0_ID a0_Name a0_Data a0_Sealed a0_Until a0_Holds a1 = some r) :
    Calls prog 10 #[.agg ((([.int .i64 a0_ID, .string a0_Name, .string a0_Data, .bool a0_Sealed, .int .i64 a0_Until, .slice A_a0_Holds a0_Holds.length c_a0_Holds] : List Value))).toArray, .agg (c_ApiOp a1).toArray] w (fun e w' => e = .returned (.bool r) ∧ Inv w0 Z w' A) := by
  have e4 := calls_intro (R := (fun e w' => e = .returned (.bool r) ∧ Inv w0 Z w' A)) (w := w) (args := [.agg ((([.int .i64 a0_ID, .string a0_Name, .string a0_Data, .bool a0_Sealed, .int .i64 a0_Until, .slice A_a0_Holds a0_Holds.length c_a0_Holds] : List Value))).toArray, .agg (c_ApiOp a1).toArray]) (fn := Go.Proofs.Tryd.f10) 21 Go.Proofs.Tryd.func10 (by rfl) Go.Proofs.Tryd.ntmps10 (by kernel_rfl)
  refine e4 ?_
  clear e4
  unfold law08_few at h0
  refine CodT.seq ?_
  refine CodT.regionL [0, 1, 2] (by kernel_rfl) ?_
  refine OpsT.cons (Does.boxL (d := 2) (T := 24) (v := .agg ((([.int .i64 a0_ID, .string a0_Name, .string a0_Data, .bool a0_Sealed, .int .i64 a0_Until, .slice A_a0_Holds a0_Holds.length c_a0_Holds] : List Value))).toArray) ((([.int .i64 a0_ID, .string a0_Name, .string a0_Data, .bool a0_Sealed, .int .i64 a0_Until, .slice A_a0_Holds a0_Holds.length c_a0_Holds] : List Value))) (by kernel_rfl) hI (by kernel_rfl) ?_)
  intro b1 w hI
  refine OpsT.cons (Does.boxL (d := 3) (T := 31) (v := .agg (c_ApiOp a1).toArray) (c_ApiOp a1) (by kernel_rfl) hI (by kernel_rfl) ?_)
  intro b2 w hI
  refine OpsT.pures (r := []) [2] [2, 3] (S' := [(2, .pointer (some ⟨b1, 0, none⟩)), (3, .pointer (some ⟨b2, 0, none⟩))]) (by kernel_rfl) ?_
  refine OpsT.done ?_
  refine Qn.then ?_
  refine CodT.seq ?_
  refine CodT.regionL [0, 1, 2] (by kernel_rfl) ?_
  refine OpsT.cons (Does.yi (Yl.load (d := 6) (T := 24) (v := .agg ((([.int .i64 a0_ID, .string a0_Name, .string a0_Data, .bool a0_Sealed, .int .i64 a0_Until, .slice A_a0_Holds a0_Holds.length c_a0_Holds] : List Value))).toArray) (by kernel_rfl) (ldBN ty24 (l := (([.int .i64 a0_ID, .string a0_Name, .string a0_Data, .bool a0_Sealed, .int .i64 a0_Until, .slice A_a0_Holds a0_Holds.length c_a0_Holds] : List Value))) (o := 0) (cs := (([.int .i64 a0_ID, .string a0_Name, .string a0_Data, .bool a0_Sealed, .int .i64 a0_Until, .slice A_a0_Holds a0_Holds.length c_a0_Holds] : List Value))) (pick2 _ _ _) (by kernel_rfl) (whole _ _ (by kernel_rfl)))) hI ?_)
  obtain ⟨y4, hc3, h0⟩ := bindS h0
  try dsimp only at h0
  refine OpsT.cons (Does.call (d := some 7) (n := 32) (vs := [.agg ((([.int .i64 a0_ID, .string a0_Name, .string a0_Data, .bool a0_Sealed, .int .i64 a0_Until, .slice A_a0_Holds a0_Holds.length c_a0_Holds] : List Value))).toArray]) (by kernel_rfl) en32 (c32 w0 w _ _ hI hT a0_ID a0_Name a0_Data a0_Sealed a0_Until A_a0_Holds c_a0_Holds a0_Holds hr_a0_Holds _ hc3) ?_)
  rintro e w ⟨rfl, hI⟩
  refine ⟨_, rfl, ?_⟩
  refine OpsT.pures (r := []) [2] [3, 5] (S' := [(3, .pointer (some ⟨b2, 0, none⟩)), (5, .bool y4)]) (by kernel_rfl) ?_
  refine OpsT.done ?_
  refine Qn.then ?_
  obtain ⟨r1, h1, h0⟩ := bindS h0
  refine CodT.meet (fun a w => ∃ (x5 : Bool), x5 = r1 ∧ Fr 21 [(4, .bool x5)] a ∧ Inv w0 Z w A) ?_ ?_
  ·
    refine CodT.regionL [0, 1, 2, 3, 4, 5, 6, 7, 8, 9, 10, 11, 12, 13] (by kernel_rfl) ?_
    refine OpsT.pures (r := [2, 3, 4, 5, 6, 7, 8, 9, 10, 11, 12, 13]) [0, 1] [3, 9] (S' := [(3, .pointer (some ⟨b2, 0, none⟩)), (9, .bool y4)]) (by kernel_rfl) ?_
    by_cases hb6 : y4 = true
    · rw [if_pos hb6] at h1
      refine OpsT.keep [3, 9] (S' := [(3, .pointer (some ⟨b2, 0, none⟩)), (9, .bool true)]) (by (try simp only [hb6]); kernel_rfl) ?_
      refine OpsT.pures (r := [3, 4, 5, 6, 7, 8, 9, 10, 11, 12, 13]) [2] [3, 9, 10] (S' := [(3, .pointer (some ⟨b2, 0, none⟩)), (9, .bool true), (10, .pointer (some ⟨b2, 2, none⟩))]) (by kernel_rfl) ?_
      refine OpsT.cons (Does.yi (Yl.load (d := 11) (T := 9) (v := .string a1.Text) (by kernel_rfl) (ldB ty9 (l := c_ApiOp a1) (o := 2) (v := .string a1.Text) (ent_refl _) (by kernel_rfl))) hI ?_)
      refine OpsT.pures (r := [8, 9, 10, 11, 12, 13]) [4, 5, 6, 7] [3, 15] (S' := [(3, .pointer (some ⟨b2, 0, none⟩)), (15, .bool (decide ((a1.Text.size : Int) ≤ 700)))]) (by kernel_rfl) ?_
      by_cases hb7 : (decide ((a1.Text.size : Int) ≤ 700)) = true
      · rw [if_pos hb7] at h1
        refine OpsT.keep [3, 15] (S' := [(3, .pointer (some ⟨b2, 0, none⟩)), (15, .bool true)]) (by (try simp only [hb7]); kernel_rfl) ?_
        refine OpsT.pures (r := [9, 10, 11, 12, 13]) [8] [15, 16] (S' := [(15, .bool true), (16, .pointer (some ⟨b2, 1, none⟩))]) (by kernel_rfl) ?_
        refine OpsT.cons (Does.yi (Yl.load (d := 17) (T := 9) (v := .string a1.Name) (by kernel_rfl) (ldB ty9 (l := c_ApiOp a1) (o := 1) (v := .string a1.Name) (ent_refl _) (by kernel_rfl))) hI ?_)
        refine OpsT.pures (r := []) [10, 11, 12, 13] [4] (S' := [(4, .bool (decide ((a1.Name.size : Int) ≤ 700)))]) (by kernel_rfl) ?_
        refine OpsT.done ?_
        have hI := hI.drop
        have hI := hI.drop
        have e := someS h1
        subst e
        exact Qn.thenJ fun a ha => ⟨decide ((a1.Name.size : Int) ≤ 700), rfl, ha.keep [4] (by kernel_rfl), hI⟩
      · rw [if_neg hb7] at h1
        have hb7 : (decide ((a1.Text.size : Int) ≤ 700)) = false := by simpa using hb7
        refine OpsT.keep [3, 15] (S' := [(3, .pointer (some ⟨b2, 0, none⟩)), (15, .bool false)]) (by (try simp only [hb7]); kernel_rfl) ?_
        refine OpsT.pures (r := []) [8, 9, 10, 11, 12, 13] [4] (S' := [(4, .bool false)]) (by kernel_rfl) ?_
        refine OpsT.done ?_
        have hI := hI.drop
        have hI := hI.drop
        have e := someS h1
        subst e
        exact Qn.thenJ fun a ha => ⟨false, rfl, ha.keep [4] (by kernel_rfl), hI⟩
    · rw [if_neg hb6] at h1
      have hb6 : y4 = false := by simpa using hb6
      refine OpsT.keep [3, 9] (S' := [(3, .pointer (some ⟨b2, 0, none⟩)), (9, .bool false)]) (by (try simp only [hb6]); kernel_rfl) ?_
      refine OpsT.pures (r := []) [2, 3, 4, 5, 6, 7, 8, 9, 10, 11, 12, 13] [4] (S' := [(4, .bool false)]) (by kernel_rfl) ?_
      refine OpsT.done ?_
      have hI := hI.drop
      have hI := hI.drop
      have e := someS h1
      subst e
      exact Qn.thenJ fun a ha => ⟨false, rfl, ha.keep [4] (by kernel_rfl), hI⟩
  ·
    rintro a w ⟨x5, rfl, ha, hI⟩
    try dsimp only at h0
    refine CodT.of ?_ ha
    refine CodT.ret ?_
    have e := someS h0
    subst e
    refine Qn.keep [4] (S' := [(4, .bool x5)]) (by kernel_rfl) ?_
    exact post_ret (v := .bool x5) (fun a ha => RunRes.run (vs := [.bool x5]) (.tmp (t := 4) (by kernel_rfl) .nil) ha (by kernel_rfl)) ⟨rfl, hI⟩
set_option maxRecDepth 100000 in
set_option maxHeartbeats 4000000 in
/-- cenotaph/event.parts -/
theorem c36 (w0 w : World) (Z : Hp) (A : HP) (hI : Inv w0 Z w A) (hT : Tabs Z) (a0 : ApiEvent) (hl1 : a0.Sum.length = 32) (r : (List Dyn86)) (h0 : event_parts a0 = some r) :
    Calls prog 36 #[.agg (c_ApiEvent a0).toArray] w (fun e w' => ∃ (A1 : Option Addr) (c1 : Nat), e = .returned (.slice A1 r.length c1) ∧ Inv w0 Z w' (star (ownS 86 cD86 1 A1 c1 r) A)) := by
  have e4 := calls_intro (R := (fun e w' => ∃ (A1 : Option Addr) (c1 : Nat), e = .returned (.slice A1 r.length c1) ∧ Inv w0 Z w' (star (ownS 86 cD86 1 A1 c1 r) A))) (w := w) (args := [.agg (c_ApiEvent a0).toArray]) (fn := Go.Proofs.Tryd.f36) 59 Go.Proofs.Tryd.func36 (by rfl) Go.Proofs.Tryd.ntmps36 (by kernel_rfl)
  refine e4 ?_
  clear e4
  unfold event_parts at h0
  refine CodT.seq ?_
  refine CodT.regionL [0, 1] (by kernel_rfl) ?_
  refine OpsT.cons (Does.boxL (d := 1) (T := 35) (v := .agg (c_ApiEvent a0).toArray) (c_ApiEvent a0) (by kernel_rfl) hI (by kernel_rfl) ?_)
  intro b2 w hI
  refine OpsT.pures (r := []) [1] [1] (S' := [(1, .pointer (some ⟨b2, 0, none⟩))]) (by kernel_rfl) ?_
  refine OpsT.done ?_
  refine Qn.then ?_
  refine CodT.seq ?_
  refine CodT.regionL [0, 1, 2] (by kernel_rfl) ?_
  refine OpsT.pures (r := [1, 2]) [0] [1, 4] (S' := [(1, .pointer (some ⟨b2, 0, none⟩)), (4, .pointer (some ⟨b2, 1, none⟩))]) (by kernel_rfl) ?_
  refine OpsT.cons (Does.yi (Yl.load (d := 5) (T := 3) (v := .int .i64 a0.ID) (by kernel_rfl) (ldB ty3 (l := c_ApiEvent a0) (o := 1) (v := .int .i64 a0.ID) (ent_refl _) (by kernel_rfl))) hI ?_)
  refine OpsT.pures (r := []) [2] [1, 3] (S' := [(1, .pointer (some ⟨b2, 0, none⟩)), (3, .int .i64 a0.ID)]) (by kernel_rfl) ?_
  refine OpsT.done ?_
  refine Qn.then ?_
  refine CodT.seq ?_
  refine CodT.seq ?_
  refine CodT.regionL [0, 1] (by kernel_rfl) ?_
  refine OpsT.pures (r := [1]) [0] [1, 3, 6] (S' := [(1, .pointer (some ⟨b2, 0, none⟩)), (3, .int .i64 a0.ID), (6, .pointer (some ⟨b2, 0, none⟩))]) (by kernel_rfl) ?_
  refine OpsT.cons (Does.yi (Yl.load (d := 7) (T := 29) (v := .int .i64 a0.Kind) (by kernel_rfl) (ldB ty29 (l := c_ApiEvent a0) (o := 0) (v := .int .i64 a0.Kind) (ent_refl _) (by kernel_rfl))) hI ?_)
  refine OpsT.done ?_
  refine Qn.then ?_
  refine CodT.block ?_
  obtain ⟨r1, h1, h0⟩ := bindS h0
  refine CodT.meet (fun a w => ∃ (x3 : Bool), x3 = r1 ∧ Fr 59 [(1, .pointer (some ⟨b2, 0, none⟩)), (3, .int .i64 a0.ID), (7, .int .i64 a0.Kind), (8, .bool x3)] a ∧ Inv w0 Z w (star (pt b2 (.cells (c_ApiEvent a0).toArray 35 (0, 0))) A)) ?_ ?_
  ·
    refine CodT.seq ?_
    refine CodT.regionL [0, 1] (by kernel_rfl) ?_
    refine OpsT.pures (r := []) [0, 1] [1, 3, 7, 8] (S' := [(1, .pointer (some ⟨b2, 0, none⟩)), (3, .int .i64 a0.ID), (7, .int .i64 a0.Kind), (8, .bool (a0.Kind == 0))]) (by kernel_rfl) ?_
    refine OpsT.done ?_
    refine Qn.then ?_
    by_cases hb4 : (a0.Kind == 0) = true
    · rw [if_pos hb4] at h1
      refine CodT.yes' (b := a0.Kind == 0) (by kernel_rfl) hb4 ?_
      refine CodT.skip ?_
      have e := someS h1
      subst e
      exact Qn.thenJ fun a ha => ⟨a0.Kind == 0, rfl, ha.keep [1, 3, 7, 8] (by kernel_rfl), hI⟩
    · rw [if_neg hb4] at h1
      refine CodT.no' (b := a0.Kind == 0) (by kernel_rfl) (by simpa using hb4) ?_
      refine CodT.seq ?_
      refine CodT.regionL [0, 1] (by kernel_rfl) ?_
      refine OpsT.pures (r := []) [0, 1] [1, 3, 7, 8] (S' := [(1, .pointer (some ⟨b2, 0, none⟩)), (3, .int .i64 a0.ID), (7, .int .i64 a0.Kind), (8, .bool (a0.Kind == 4))]) (by kernel_rfl) ?_
      refine OpsT.done ?_
      refine Qn.then ?_
      by_cases hb5 : (a0.Kind == 4) = true
      · rw [if_pos hb5] at h1
        refine CodT.yes' (b := a0.Kind == 4) (by kernel_rfl) hb5 ?_
        refine CodT.skip ?_
        have e := someS h1
        subst e
        exact Qn.thenJ fun a ha => ⟨a0.Kind == 4, rfl, ha.keep [1, 3, 7, 8] (by kernel_rfl), hI⟩
      · rw [if_neg hb5] at h1
        refine CodT.no' (b := a0.Kind == 4) (by kernel_rfl) (by simpa using hb5) ?_
        refine CodT.regionL [0, 1] (by kernel_rfl) ?_
        refine OpsT.pures (r := []) [0, 1] [1, 3, 7, 8] (S' := [(1, .pointer (some ⟨b2, 0, none⟩)), (3, .int .i64 a0.ID), (7, .int .i64 a0.Kind), (8, .bool (a0.Kind == 5))]) (by kernel_rfl) ?_
        refine OpsT.done ?_
        have e := someS h1
        subst e
        exact Qn.thenJ fun a ha => ⟨a0.Kind == 5, rfl, ha.keep [1, 3, 7, 8] (by kernel_rfl), hI⟩
  ·
    rintro a w ⟨x3, rfl, ha, hI⟩
    try dsimp only at h0
    refine CodT.of ?_ ha
    by_cases hb6 : x3 = true
    · rw [if_pos hb6] at h0
      refine CodT.yes' (b := x3) (by kernel_rfl) hb6 ?_
      refine CodT.seq ?_
      refine CodT.regionL [0, 1, 2, 3, 4, 5, 6] (by kernel_rfl) ?_
      refine OpsT.pures (r := [3, 4, 5, 6]) [0, 1, 2] [13, 14] (S' := [(13, .iface 119 (.int .i64 a0.ID)), (14, .pointer (some ⟨b2, 2, none⟩))]) (by kernel_rfl) ?_
      refine OpsT.cons (Does.yi (Yl.load (d := 15) (T := 9) (v := .string a0.Name) (by kernel_rfl) (ldB ty9 (l := c_ApiEvent a0) (o := 2) (v := .string a0.Name) (ent_refl _) (by kernel_rfl))) hI ?_)
      refine OpsT.pures (r := [5, 6]) [4] [13, 16] (S' := [(13, .iface 119 (.int .i64 a0.ID)), (16, .iface 87 (.string a0.Name))]) (by kernel_rfl) ?_
      refine OpsT.cons (Does.buildSlice (en := cD86) (d := 17) (n := 2) (T := 82) (ps := [(0, .iface 119 (.int .i64 a0.ID)), (1, .iface 87 (.string a0.Name))]) ([(Dyn86.i119 a0.ID), (Dyn86.i87 a0.Name)] : List Dyn86) (by kernel_rfl) Go.Proofs.Tryd.underlying82 ty86 (by kernel_rfl) (by kernel_rfl) (by kernel_rfl) (by kernel_rfl) (len_all (fun _ => rfl)) hI ?_)
      intro b7 w hI
      refine OpsT.pures (r := []) [6] [2] (S' := [(2, .slice (some ⟨b7, 0, none⟩) (([(Dyn86.i119 a0.ID), (Dyn86.i87 a0.Name)] : List Dyn86).length) 2)]) (by kernel_rfl) ?_
      refine OpsT.done ?_
      refine Qn.then ?_
      refine CodT.ret ?_
      refine Qn.block_ret ?_
      refine Qn.ret_then ?_
      have hI := hI.mono (pick2 _ _ _)
      have hI := hI.drop
      have e := someS h0
      subst e
      refine Qn.keep [2] (S' := [(2, .slice (some ⟨b7, 0, none⟩) (([(Dyn86.i119 a0.ID), (Dyn86.i87 a0.Name)] : List Dyn86).length) 2)]) (by kernel_rfl) ?_
      exact post_ret (v := .slice (some ⟨b7, 0, none⟩) (([(Dyn86.i119 a0.ID), (Dyn86.i87 a0.Name)] : List Dyn86).length) 2) (fun a ha => RunRes.run (vs := [.slice (some ⟨b7, 0, none⟩) (([(Dyn86.i119 a0.ID), (Dyn86.i87 a0.Name)] : List Dyn86).length) 2]) (.tmp (t := 2) (by kernel_rfl) .nil) ha (by kernel_rfl)) ⟨(some ⟨b7, 0, none⟩), 2, rfl, hI⟩
    · rw [if_neg hb6] at h0
      refine CodT.no' (b := x3) (by kernel_rfl) (by simpa using hb6) ?_
      refine CodT.seq ?_
      refine CodT.regionL [0, 1] (by kernel_rfl) ?_
      refine OpsT.pures (r := []) [0, 1] [1, 3, 7, 18] (S' := [(1, .pointer (some ⟨b2, 0, none⟩)), (3, .int .i64 a0.ID), (7, .int .i64 a0.Kind), (18, .bool (a0.Kind == 1))]) (by kernel_rfl) ?_
      refine OpsT.done ?_
      refine Qn.then ?_
      by_cases hb8 : (a0.Kind == 1) = true
      · rw [if_pos hb8] at h0
        refine CodT.yes' (b := a0.Kind == 1) (by kernel_rfl) hb8 ?_
        refine CodT.seq ?_
        refine CodT.regionL [0, 1, 2, 3, 4, 5, 6] (by kernel_rfl) ?_
        refine OpsT.pures (r := [3, 4, 5, 6]) [0, 1, 2] [21, 22] (S' := [(21, .iface 119 (.int .i64 a0.ID)), (22, .pointer (some ⟨b2, 4, none⟩))]) (by kernel_rfl) ?_
        refine OpsT.cons (Does.yi (Yl.load (d := 23) (T := 3) (v := .int .i64 a0.Len) (by kernel_rfl) (ldB ty3 (l := c_ApiEvent a0) (o := 4) (v := .int .i64 a0.Len) (ent_refl _) (by kernel_rfl))) hI ?_)
        refine OpsT.pures (r := [5, 6]) [4] [21, 24] (S' := [(21, .iface 119 (.int .i64 a0.ID)), (24, .iface 119 (.int .i64 a0.Len))]) (by kernel_rfl) ?_
        refine OpsT.cons (Does.buildSlice (en := cD86) (d := 25) (n := 2) (T := 82) (ps := [(0, .iface 119 (.int .i64 a0.ID)), (1, .iface 119 (.int .i64 a0.Len))]) ([(Dyn86.i119 a0.ID), (Dyn86.i119 a0.Len)] : List Dyn86) (by kernel_rfl) Go.Proofs.Tryd.underlying82 ty86 (by kernel_rfl) (by kernel_rfl) (by kernel_rfl) (by kernel_rfl) (len_all (fun _ => rfl)) hI ?_)
        intro b9 w hI
        refine OpsT.pures (r := []) [6] [2] (S' := [(2, .slice (some ⟨b9, 0, none⟩) (([(Dyn86.i119 a0.ID), (Dyn86.i119 a0.Len)] : List Dyn86).length) 2)]) (by kernel_rfl) ?_
        refine OpsT.done ?_
        refine Qn.then ?_
        refine CodT.ret ?_
        refine Qn.block_ret ?_
        refine Qn.ret_then ?_
        have hI := hI.mono (pick2 _ _ _)
        have hI := hI.drop
        have e := someS h0
        subst e
        refine Qn.keep [2] (S' := [(2, .slice (some ⟨b9, 0, none⟩) (([(Dyn86.i119 a0.ID), (Dyn86.i119 a0.Len)] : List Dyn86).length) 2)]) (by kernel_rfl) ?_
        exact post_ret (v := .slice (some ⟨b9, 0, none⟩) (([(Dyn86.i119 a0.ID), (Dyn86.i119 a0.Len)] : List Dyn86).length) 2) (fun a ha => RunRes.run (vs := [.slice (some ⟨b9, 0, none⟩) (([(Dyn86.i119 a0.ID), (Dyn86.i119 a0.Len)] : List Dyn86).length) 2]) (.tmp (t := 2) (by kernel_rfl) .nil) ha (by kernel_rfl)) ⟨(some ⟨b9, 0, none⟩), 2, rfl, hI⟩
      · rw [if_neg hb8] at h0
        refine CodT.no' (b := a0.Kind == 1) (by kernel_rfl) (by simpa using hb8) ?_
        refine CodT.seq ?_
        refine CodT.regionL [0, 1] (by kernel_rfl) ?_
        refine OpsT.pures (r := []) [0, 1] [1, 3, 7, 26] (S' := [(1, .pointer (some ⟨b2, 0, none⟩)), (3, .int .i64 a0.ID), (7, .int .i64 a0.Kind), (26, .bool (a0.Kind == 2))]) (by kernel_rfl) ?_
        refine OpsT.done ?_
        refine Qn.then ?_
        by_cases hb10 : (a0.Kind == 2) = true
        · rw [if_pos hb10] at h0
          refine CodT.yes' (b := a0.Kind == 2) (by kernel_rfl) hb10 ?_
          refine CodT.seq ?_
          refine CodT.regionL [0, 1, 2, 3, 4, 5, 6, 7, 8, 9, 10, 11, 12] (by kernel_rfl) ?_
          refine OpsT.pures (r := [3, 4, 5, 6, 7, 8, 9, 10, 11, 12]) [0, 1, 2] [1, 29, 30] (S' := [(1, .pointer (some ⟨b2, 0, none⟩)), (29, .iface 119 (.int .i64 a0.ID)), (30, .pointer (some ⟨b2, 3, none⟩))]) (by kernel_rfl) ?_
          refine OpsT.cons (Does.yi (Yl.load (d := 31) (T := 3) (v := .int .i64 a0.Time) (by kernel_rfl) (ldB ty3 (l := c_ApiEvent a0) (o := 3) (v := .int .i64 a0.Time) (ent_refl _) (by kernel_rfl))) hI ?_)
          refine OpsT.pures (r := [6, 7, 8, 9, 10, 11, 12]) [4, 5] [1, 29, 32, 33] (S' := [(1, .pointer (some ⟨b2, 0, none⟩)), (29, .iface 119 (.int .i64 a0.ID)), (32, .iface 119 (.int .i64 a0.Time)), (33, .pointer (some ⟨b2, 4, none⟩))]) (by kernel_rfl) ?_
          refine OpsT.cons (Does.yi (Yl.load (d := 34) (T := 3) (v := .int .i64 a0.Len) (by kernel_rfl) (ldB ty3 (l := c_ApiEvent a0) (o := 4) (v := .int .i64 a0.Len) (ent_refl _) (by kernel_rfl))) hI ?_)
          refine OpsT.pures (r := [9, 10, 11, 12]) [7, 8] [29, 32, 35, 36] (S' := [(29, .iface 119 (.int .i64 a0.ID)), (32, .iface 119 (.int .i64 a0.Time)), (35, .iface 119 (.int .i64 a0.Len)), (36, .pointer (some ⟨b2, 5, none⟩))]) (by kernel_rfl) ?_
          refine OpsT.cons (Does.yi (Yl.load (d := 37) (T := 33) (v := .agg (cA (Value.int .u8) a0.Sum).toArray) (by kernel_rfl) (ldBN ty33 (l := c_ApiEvent a0) (o := 5) (cs := cA (Value.int .u8) a0.Sum) (ent_refl _) ((cA_length _ _).trans hl1) (tail_take _ _ _ _ _ (by kernel_rfl) hl1))) hI ?_)
          refine OpsT.pures (r := [11, 12]) [10] [29, 32, 35, 38] (S' := [(29, .iface 119 (.int .i64 a0.ID)), (32, .iface 119 (.int .i64 a0.Time)), (35, .iface 119 (.int .i64 a0.Len)), (38, .iface 120 (.agg (cA (Value.int .u8) a0.Sum).toArray))]) (by kernel_rfl) ?_
          refine OpsT.cons (Does.buildSlice (en := cD86) (d := 39) (n := 4) (T := 82) (ps := [(0, .iface 119 (.int .i64 a0.ID)), (1, .iface 119 (.int .i64 a0.Time)), (2, .iface 119 (.int .i64 a0.Len)), (3, .iface 120 (.agg (cA (Value.int .u8) a0.Sum).toArray))]) ([(Dyn86.i119 a0.ID), (Dyn86.i119 a0.Time), (Dyn86.i119 a0.Len), (Dyn86.i120 a0.Sum)] : List Dyn86) (by kernel_rfl) Go.Proofs.Tryd.underlying82 ty86 (by kernel_rfl) (by kernel_rfl) (by kernel_rfl) (by kernel_rfl) (len_all (fun _ => rfl)) hI ?_)
          intro b11 w hI
          refine OpsT.pures (r := []) [12] [2] (S' := [(2, .slice (some ⟨b11, 0, none⟩) (([(Dyn86.i119 a0.ID), (Dyn86.i119 a0.Time), (Dyn86.i119 a0.Len), (Dyn86.i120 a0.Sum)] : List Dyn86).length) 4)]) (by kernel_rfl) ?_
          refine OpsT.done ?_
          refine Qn.then ?_
          refine CodT.ret ?_
          refine Qn.block_ret ?_
          refine Qn.ret_then ?_
          have hI := hI.mono (pick2 _ _ _)
          have hI := hI.drop
          have e := someS h0
          subst e
          refine Qn.keep [2] (S' := [(2, .slice (some ⟨b11, 0, none⟩) (([(Dyn86.i119 a0.ID), (Dyn86.i119 a0.Time), (Dyn86.i119 a0.Len), (Dyn86.i120 a0.Sum)] : List Dyn86).length) 4)]) (by kernel_rfl) ?_
          exact post_ret (v := .slice (some ⟨b11, 0, none⟩) (([(Dyn86.i119 a0.ID), (Dyn86.i119 a0.Time), (Dyn86.i119 a0.Len), (Dyn86.i120 a0.Sum)] : List Dyn86).length) 4) (fun a ha => RunRes.run (vs := [.slice (some ⟨b11, 0, none⟩) (([(Dyn86.i119 a0.ID), (Dyn86.i119 a0.Time), (Dyn86.i119 a0.Len), (Dyn86.i120 a0.Sum)] : List Dyn86).length) 4]) (.tmp (t := 2) (by kernel_rfl) .nil) ha (by kernel_rfl)) ⟨(some ⟨b11, 0, none⟩), 4, rfl, hI⟩
        · rw [if_neg hb10] at h0
          refine CodT.no' (b := a0.Kind == 2) (by kernel_rfl) (by simpa using hb10) ?_
          refine CodT.seq ?_
          refine CodT.regionL [0, 1] (by kernel_rfl) ?_
          refine OpsT.pures (r := []) [0, 1] [1, 3, 7, 40] (S' := [(1, .pointer (some ⟨b2, 0, none⟩)), (3, .int .i64 a0.ID), (7, .int .i64 a0.Kind), (40, .bool (a0.Kind == 3))]) (by kernel_rfl) ?_
          refine OpsT.done ?_
          refine Qn.then ?_
          by_cases hb12 : (a0.Kind == 3) = true
          · rw [if_pos hb12] at h0
            refine CodT.yes' (b := a0.Kind == 3) (by kernel_rfl) hb12 ?_
            refine CodT.seq ?_
            refine CodT.regionL [0, 1, 2, 3, 4, 5, 6] (by kernel_rfl) ?_
            refine OpsT.pures (r := [3, 4, 5, 6]) [0, 1, 2] [43, 44] (S' := [(43, .iface 119 (.int .i64 a0.ID)), (44, .pointer (some ⟨b2, 3, none⟩))]) (by kernel_rfl) ?_
            refine OpsT.cons (Does.yi (Yl.load (d := 45) (T := 3) (v := .int .i64 a0.Time) (by kernel_rfl) (ldB ty3 (l := c_ApiEvent a0) (o := 3) (v := .int .i64 a0.Time) (ent_refl _) (by kernel_rfl))) hI ?_)
            refine OpsT.pures (r := [5, 6]) [4] [43, 46] (S' := [(43, .iface 119 (.int .i64 a0.ID)), (46, .iface 119 (.int .i64 a0.Time))]) (by kernel_rfl) ?_
            refine OpsT.cons (Does.buildSlice (en := cD86) (d := 47) (n := 2) (T := 82) (ps := [(0, .iface 119 (.int .i64 a0.ID)), (1, .iface 119 (.int .i64 a0.Time))]) ([(Dyn86.i119 a0.ID), (Dyn86.i119 a0.Time)] : List Dyn86) (by kernel_rfl) Go.Proofs.Tryd.underlying82 ty86 (by kernel_rfl) (by kernel_rfl) (by kernel_rfl) (by kernel_rfl) (len_all (fun _ => rfl)) hI ?_)
            intro b13 w hI
            refine OpsT.pures (r := []) [6] [2] (S' := [(2, .slice (some ⟨b13, 0, none⟩) (([(Dyn86.i119 a0.ID), (Dyn86.i119 a0.Time)] : List Dyn86).length) 2)]) (by kernel_rfl) ?_
            refine OpsT.done ?_
            refine Qn.then ?_
            refine CodT.ret ?_
            refine Qn.block_ret ?_
            refine Qn.ret_then ?_
            have hI := hI.mono (pick2 _ _ _)
            have hI := hI.drop
            have e := someS h0
            subst e
            refine Qn.keep [2] (S' := [(2, .slice (some ⟨b13, 0, none⟩) (([(Dyn86.i119 a0.ID), (Dyn86.i119 a0.Time)] : List Dyn86).length) 2)]) (by kernel_rfl) ?_
            exact post_ret (v := .slice (some ⟨b13, 0, none⟩) (([(Dyn86.i119 a0.ID), (Dyn86.i119 a0.Time)] : List Dyn86).length) 2) (fun a ha => RunRes.run (vs := [.slice (some ⟨b13, 0, none⟩) (([(Dyn86.i119 a0.ID), (Dyn86.i119 a0.Time)] : List Dyn86).length) 2]) (.tmp (t := 2) (by kernel_rfl) .nil) ha (by kernel_rfl)) ⟨(some ⟨b13, 0, none⟩), 2, rfl, hI⟩
          · rw [if_neg hb12] at h0
            refine CodT.no' (b := a0.Kind == 3) (by kernel_rfl) (by simpa using hb12) ?_
            refine CodT.seq ?_
            refine CodT.regionL [0, 1] (by kernel_rfl) ?_
            refine OpsT.pures (r := []) [0, 1] [1, 3, 7, 48] (S' := [(1, .pointer (some ⟨b2, 0, none⟩)), (3, .int .i64 a0.ID), (7, .int .i64 a0.Kind), (48, .bool (a0.Kind == 6))]) (by kernel_rfl) ?_
            refine OpsT.done ?_
            refine Qn.then ?_
            by_cases hb14 : (a0.Kind == 6) = true
            · rw [if_pos hb14] at h0
              refine CodT.yes' (b := a0.Kind == 6) (by kernel_rfl) hb14 ?_
              refine CodT.seq ?_
              refine CodT.regionL [0, 1, 2, 3] (by kernel_rfl) ?_
              refine OpsT.pures (r := [2, 3]) [0, 1] [51] (S' := [(51, .iface 119 (.int .i64 a0.ID))]) (by kernel_rfl) ?_
              refine OpsT.cons (Does.buildSlice (en := cD86) (d := 52) (n := 1) (T := 82) (ps := [(0, .iface 119 (.int .i64 a0.ID))]) ([(Dyn86.i119 a0.ID)] : List Dyn86) (by kernel_rfl) Go.Proofs.Tryd.underlying82 ty86 (by kernel_rfl) (by kernel_rfl) (by kernel_rfl) (by kernel_rfl) (len_all (fun _ => rfl)) hI ?_)
              intro b15 w hI
              refine OpsT.pures (r := []) [3] [2] (S' := [(2, .slice (some ⟨b15, 0, none⟩) (([(Dyn86.i119 a0.ID)] : List Dyn86).length) 1)]) (by kernel_rfl) ?_
              refine OpsT.done ?_
              refine Qn.then ?_
              refine CodT.ret ?_
              refine Qn.block_ret ?_
              refine Qn.ret_then ?_
              have hI := hI.mono (pick2 _ _ _)
              have hI := hI.drop
              have e := someS h0
              subst e
              refine Qn.keep [2] (S' := [(2, .slice (some ⟨b15, 0, none⟩) (([(Dyn86.i119 a0.ID)] : List Dyn86).length) 1)]) (by kernel_rfl) ?_
              exact post_ret (v := .slice (some ⟨b15, 0, none⟩) (([(Dyn86.i119 a0.ID)] : List Dyn86).length) 1) (fun a ha => RunRes.run (vs := [.slice (some ⟨b15, 0, none⟩) (([(Dyn86.i119 a0.ID)] : List Dyn86).length) 1]) (.tmp (t := 2) (by kernel_rfl) .nil) ha (by kernel_rfl)) ⟨(some ⟨b15, 0, none⟩), 1, rfl, hI⟩
            · rw [if_neg hb14] at h0
              refine CodT.no' (b := a0.Kind == 6) (by kernel_rfl) (by simpa using hb14) ?_
              refine CodT.seq ?_
              refine CodT.regionL [0, 1] (by kernel_rfl) ?_
              refine OpsT.pures (r := []) [0, 1] [1, 53] (S' := [(1, .pointer (some ⟨b2, 0, none⟩)), (53, .bool (a0.Kind == 7))]) (by kernel_rfl) ?_
              refine OpsT.done ?_
              refine Qn.then ?_
              by_cases hb16 : (a0.Kind == 7) = true
              · rw [if_pos hb16] at h0
                refine CodT.yes' (b := a0.Kind == 7) (by kernel_rfl) hb16 ?_
                refine CodT.seq ?_
                refine CodT.regionL [0, 1, 2, 3, 4] (by kernel_rfl) ?_
                refine OpsT.pures (r := [1, 2, 3, 4]) [0] [55] (S' := [(55, .pointer (some ⟨b2, 3, none⟩))]) (by kernel_rfl) ?_
                refine OpsT.cons (Does.yi (Yl.load (d := 56) (T := 3) (v := .int .i64 a0.Time) (by kernel_rfl) (ldB ty3 (l := c_ApiEvent a0) (o := 3) (v := .int .i64 a0.Time) (ent_refl _) (by kernel_rfl))) hI ?_)
                refine OpsT.pures (r := [3, 4]) [2] [57] (S' := [(57, .iface 119 (.int .i64 a0.Time))]) (by kernel_rfl) ?_
                refine OpsT.cons (Does.buildSlice (en := cD86) (d := 58) (n := 1) (T := 82) (ps := [(0, .iface 119 (.int .i64 a0.Time))]) ([(Dyn86.i119 a0.Time)] : List Dyn86) (by kernel_rfl) Go.Proofs.Tryd.underlying82 ty86 (by kernel_rfl) (by kernel_rfl) (by kernel_rfl) (by kernel_rfl) (len_all (fun _ => rfl)) hI ?_)
                intro b17 w hI
                refine OpsT.pures (r := []) [4] [2] (S' := [(2, .slice (some ⟨b17, 0, none⟩) (([(Dyn86.i119 a0.Time)] : List Dyn86).length) 1)]) (by kernel_rfl) ?_
                refine OpsT.done ?_
                refine Qn.then ?_
                refine CodT.ret ?_
                refine Qn.block_ret ?_
                refine Qn.ret_then ?_
                have hI := hI.mono (pick2 _ _ _)
                have hI := hI.drop
                have e := someS h0
                subst e
                refine Qn.keep [2] (S' := [(2, .slice (some ⟨b17, 0, none⟩) (([(Dyn86.i119 a0.Time)] : List Dyn86).length) 1)]) (by kernel_rfl) ?_
                exact post_ret (v := .slice (some ⟨b17, 0, none⟩) (([(Dyn86.i119 a0.Time)] : List Dyn86).length) 1) (fun a ha => RunRes.run (vs := [.slice (some ⟨b17, 0, none⟩) (([(Dyn86.i119 a0.Time)] : List Dyn86).length) 1]) (.tmp (t := 2) (by kernel_rfl) .nil) ha (by kernel_rfl)) ⟨(some ⟨b17, 0, none⟩), 1, rfl, hI⟩
              · rw [if_neg hb16] at h0
                refine CodT.no' (b := a0.Kind == 7) (by kernel_rfl) (by simpa using hb16) ?_
                refine CodT.skip ?_
                refine Qn.block_normal ?_
                refine Qn.then ?_
                refine CodT.seq ?_
                refine CodT.regionL [0] (by kernel_rfl) ?_
                refine OpsT.pures (r := []) [0] [2] (S' := [(2, .slice none 0 0)]) (by kernel_rfl) ?_
                refine OpsT.done ?_
                refine Qn.then ?_
                refine CodT.ret ?_
                have hI := ownS_nil (α := Dyn86) hI 86 cD86 1
                have hI := hI.mono (pick2 _ _ _)
                have hI := hI.drop
                have e := someS h0
                subst e
                refine Qn.keep [2] (S' := [(2, .slice none 0 0)]) (by kernel_rfl) ?_
                exact post_ret (v := .slice none 0 0) (fun a ha => RunRes.run (vs := [.slice none 0 0]) (.tmp (t := 2) (by kernel_rfl) .nil) ha (by kernel_rfl)) ⟨none, 0, rfl, hI⟩
set_option maxRecDepth 100000 in
set_option maxHeartbeats 4000000 in
/-- cenotaph/event.of -/
theorem c37 (w0 w : World) (Z : Hp) (A : HP) (hI : Inv w0 Z w A) (hT : Tabs Z) (a0 : Int) (A_a1 : Option Addr) (c_a1 : Nat) (a1 : (List Dyn86)) (hr_a1 : RdS Z cD86 1 A_a1 c_a1 a1) (r : ApiEvent) (h0 : event_of a0 a1 = some r) :
    Calls prog 37 #[.int .i64 a0, .slice A_a1 a1.length c_a1] w (fun e w' => e = .returned (.agg (c_ApiEvent r).toArray) ∧ r.Sum.length = 32 ∧ Inv w0 Z w' A) := by
  have e4 := calls_intro (R := (fun e w' => e = .returned (.agg (c_ApiEvent r).toArray) ∧ r.Sum.length = 32 ∧ Inv w0 Z w' A)) (w := w) (args := [.int .i64 a0, .slice A_a1 a1.length c_a1]) (fn := Go.Proofs.Tryd.f37) 74 Go.Proofs.Tryd.func37 (by rfl) Go.Proofs.Tryd.ntmps37 (by kernel_rfl)
  refine e4 ?_
  clear e4
  unfold event_of at h0
  refine CodT.seq ?_
  refine CodT.regionL [0] (by kernel_rfl) ?_
  refine OpsT.cons (Does.allocL (d := 4) (T := 35) (c_ApiEvent (ApiEvent.mk 0 0 (⟨#[]⟩ : ByteArray) 0 0 (List.replicate 32 (0 : Int)))) (by kernel_rfl) ty35 hI (by kernel_rfl) ?_)
  intro b1 w hI
  refine OpsT.done ?_
  refine Qn.then ?_
  refine CodT.seq ?_
  refine CodT.regionL [0, 1, 2, 3] (by kernel_rfl) ?_
  refine OpsT.pures (r := [2, 3]) [0, 1] [0, 1, 4, 13] (S' := [(0, .int .i64 a0), (1, .slice A_a1 a1.length c_a1), (4, .pointer (some ⟨b1, 0, none⟩)), (13, .agg (c_ApiEvent (ApiEvent.mk a0 0 (⟨#[]⟩ : ByteArray) 0 0 (List.replicate 32 (0 : Int)))).toArray)]) (by kernel_rfl) ?_
  refine OpsT.cons (Does.allocL (d := 5) (T := 35) (c_ApiEvent (ApiEvent.mk 0 0 (⟨#[]⟩ : ByteArray) 0 0 (List.replicate 32 (0 : Int)))) (by kernel_rfl) ty35 hI (by kernel_rfl) ?_)
  intro b2 w hI
  refine OpsT.cons (Does.storeLit (T := 35) (b := b2) (o := 0) (v := .agg (c_ApiEvent (ApiEvent.mk a0 0 (⟨#[]⟩ : ByteArray) 0 0 (List.replicate 32 (0 : Int)))).toArray) (l := c_ApiEvent (ApiEvent.mk 0 0 (⟨#[]⟩ : ByteArray) 0 0 (List.replicate 32 (0 : Int)))) (vs := c_ApiEvent (ApiEvent.mk a0 0 (⟨#[]⟩ : ByteArray) 0 0 (List.replicate 32 (0 : Int)))) (L' := c_ApiEvent (ApiEvent.mk a0 0 (⟨#[]⟩ : ByteArray) 0 0 (List.replicate 32 (0 : Int)))) (by kernel_rfl) ty35 hI (by kernel_rfl) (len_ApiEvent _ (by kernel_rfl)) (by rw [(len_ApiEvent _ (by kernel_rfl))]; kernel_rfl) (ones_app _ _ (by kernel_rfl) (ones_cA _)) (lset_all _ _ (Eq.trans (len_ApiEvent _ (by kernel_rfl)) (Eq.symm (len_ApiEvent _ (by kernel_rfl))))) ?_)
  intro w hI
  refine OpsT.done ?_
  refine Qn.then ?_
  refine CodT.seq ?_
  refine CodT.regionL [0] (by kernel_rfl) ?_
  refine OpsT.pures (r := []) [0] [0, 1, 4, 5, 6] (S' := [(0, .int .i64 a0), (1, .slice A_a1 a1.length c_a1), (4, .pointer (some ⟨b1, 0, none⟩)), (5, .pointer (some ⟨b2, 0, none⟩)), (6, .slice none 0 0)]) (by kernel_rfl) ?_
  refine OpsT.done ?_
  refine Qn.then ?_
  refine CodT.seq ?_
  refine CodT.seq ?_
  refine CodT.regionL [0, 1, 2] (by kernel_rfl) ?_
  refine OpsT.pures (r := []) [0, 1, 2] [0, 4, 5, 6, 14, 15, 16] (S' := [(0, .int .i64 a0), (4, .pointer (some ⟨b1, 0, none⟩)), (5, .pointer (some ⟨b2, 0, none⟩)), (6, .slice none 0 0), (14, .slice A_a1 a1.length c_a1), (15, .int .i64 (a1.length : Int)), (16, .int .i64 0)]) (by kernel_rfl) ?_
  refine OpsT.done ?_
  refine Qn.then ?_
  obtain ⟨r1, h1, h0⟩ := bindS h0
  refine CodT.meet1 (fun a w => ∃ (x3 : (List Int)) (x6 : ApiEvent) (A4 : Option Addr) (cp5 : Nat), (x3, x6) = r1 ∧ Fr 74 [(0, .int .i64 a0), (4, .pointer (some ⟨b1, 0, none⟩)), (5, .pointer (some ⟨b2, 0, none⟩)), (6, .slice A4 x3.length cp5)] a ∧ Inv w0 Z w (star (ownS 3 (cI .i64) 1 A4 cp5 x3) (star (pt b2 (.cells (c_ApiEvent x6).toArray 35 (0, 0))) (star (pt b1 (.cells (c_ApiEvent (ApiEvent.mk 0 0 (⟨#[]⟩ : ByteArray) 0 0 (List.replicate 32 (0 : Int)))).toArray 35 (0, 0))) A))) ∧ x6.Sum.length = 32) ?_ ?_
  ·
    refine CodT.block ?_
    have hI := ownS_nil (α := Int) hI 3 (cI .i64) 1
    refine (fun a ha => wp_loopN (fun k a w => ∃ (x8 : (List Int)) (x11 : Int) (x12 : ApiEvent) (A9 : Option Addr) (cp10 : Nat), event_of.l0 a1 k x8 x11 x12 = some r1 ∧ Fr 74 [(0, .int .i64 a0), (4, .pointer (some ⟨b1, 0, none⟩)), (5, .pointer (some ⟨b2, 0, none⟩)), (6, .slice A9 x8.length cp10), (14, .slice A_a1 a1.length c_a1), (15, .int .i64 (a1.length : Int)), (16, .int .i64 x11)] a ∧ Inv w0 Z w (star (ownS 3 (cI .i64) 1 A9 cp10 x8) (star (pt b2 (.cells (c_ApiEvent x12).toArray 35 (0, 0))) (star (pt b1 (.cells (c_ApiEvent (ApiEvent.mk 0 0 (⟨#[]⟩ : ByteArray) 0 0 (List.replicate 32 (0 : Int)))).toArray 35 (0, 0))) A))) ∧ x12.Sum.length = 32) ?_ FU a w ⟨([] : List Int), 0, (ApiEvent.mk a0 0 (⟨#[]⟩ : ByteArray) 0 0 (List.replicate 32 (0 : Int))), none, 0, h1, ha.keep [0, 4, 5, 6, 14, 15, 16] (by kernel_rfl), hI, (by kernel_rfl)⟩)
    clear h1 hI
    rintro k a w ⟨x8, x11, x12, A9, cp10, h1, ha, hI, hl13⟩
    rcases k with _ | k
    · cases h1
    simp only [event_of.l0] at h1
    refine CodT.of ?_ ha
    refine CodT.seq ?_
    refine CodT.regionL [0] (by kernel_rfl) ?_
    refine OpsT.pures (r := []) [0] [0, 4, 5, 6, 14, 15, 16, 17] (S' := [(0, .int .i64 a0), (4, .pointer (some ⟨b1, 0, none⟩)), (5, .pointer (some ⟨b2, 0, none⟩)), (6, .slice A9 x8.length cp10), (14, .slice A_a1 a1.length c_a1), (15, .int .i64 (a1.length : Int)), (16, .int .i64 x11), (17, .bool (decide (x11 < (a1.length : Int))))]) (by kernel_rfl) ?_
    refine OpsT.done ?_
    refine Qn.then ?_
    refine CodT.seq ?_
    by_cases hb14 : (decide (x11 < (a1.length : Int))) = true
    · rw [if_pos hb14] at h1
      refine CodT.yes' (b := decide (x11 < (a1.length : Int))) (by kernel_rfl) hb14 ?_
      refine CodT.skip ?_
      refine Qn.then ?_
      obtain ⟨r2, h2, h1⟩ := bindS h1
      refine CodT.meet (fun a w => ∃ (x15 : (List Int)) (x18 : ApiEvent) (A16 : Option Addr) (cp17 : Nat), (x15, x18) = r2 ∧ Fr 74 [(0, .int .i64 a0), (4, .pointer (some ⟨b1, 0, none⟩)), (5, .pointer (some ⟨b2, 0, none⟩)), (6, .slice A16 x15.length cp17), (14, .slice A_a1 a1.length c_a1), (15, .int .i64 (a1.length : Int)), (16, .int .i64 x11)] a ∧ Inv w0 Z w (star (ownS 3 (cI .i64) 1 A16 cp17 x15) (star (pt b2 (.cells (c_ApiEvent x18).toArray 35 (0, 0))) (star (pt b1 (.cells (c_ApiEvent (ApiEvent.mk 0 0 (⟨#[]⟩ : ByteArray) 0 0 (List.replicate 32 (0 : Int)))).toArray 35 (0, 0))) A))) ∧ x18.Sum.length = 32) ?_ ?_
      ·
        refine CodT.block ?_
        refine CodT.seq ?_
        refine CodT.regionL [0, 1, 2] (by kernel_rfl) ?_
        obtain ⟨hg20, h2⟩ := guardS h2
        obtain ⟨g21, o25, hA22, hr23, hl24⟩ := RdS.get hr_a1 hg20.1 hg20.2
        refine OpsT.cons (Does.yi (Yl.indexSlice (d := 18) (T := 82) (cc := c_a1) (k := .i64) (j := x11) (g := g21) (o := o25) (by kernel_rfl) Go.Proofs.Tryd.underlying82 ty86 hA22 hg20.1 hg20.2) hI ?_)
        refine OpsT.cons (Does.yi (Yl.load (d := 19) (T := 86) (v := dynV86 (gt a1 x11)) (by kernel_rfl) (ldR ty86 (v := dynV86 (gt a1 x11)) 0 (fun w hC => hr23 w0 w _ hC) (by kernel_rfl))) hI ?_)
        refine OpsT.pures (r := []) [2] [0, 4, 5, 6, 8, 14, 15, 16] (S' := [(0, .int .i64 a0), (4, .pointer (some ⟨b1, 0, none⟩)), (5, .pointer (some ⟨b2, 0, none⟩)), (6, .slice A9 x8.length cp10), (8, dynV86 (gt a1 x11)), (14, .slice A_a1 a1.length c_a1), (15, .int .i64 (a1.length : Int)), (16, .int .i64 x11)]) (by kernel_rfl) ?_
        refine OpsT.done ?_
        refine Qn.then ?_
        refine CodT.seq ?_
        refine CodT.regionL [0] (by kernel_rfl) ?_
        refine OpsT.pures (r := []) [0] [0, 4, 5, 6, 14, 15, 16, 20] (S' := [(0, .int .i64 a0), (4, .pointer (some ⟨b1, 0, none⟩)), (5, .pointer (some ⟨b2, 0, none⟩)), (6, .slice A9 x8.length cp10), (14, .slice A_a1 a1.length c_a1), (15, .int .i64 (a1.length : Int)), (16, .int .i64 x11), (20, dynV86 (gt a1 x11))]) (by kernel_rfl) ?_
        refine OpsT.done ?_
        refine Qn.then ?_
        refine CodT.block ?_
        refine CodT.seq ?_
        refine CodT.regionL [0, 1, 2] (by kernel_rfl) ?_
        rcases hd26 : gt a1 x11 with _ | z27 | z28 | z29
        ·
          simp only [hd26] at h2
          refine OpsT.keep [0, 4, 5, 6, 14, 15, 16, 20] (S' := [(0, .int .i64 a0), (4, .pointer (some ⟨b1, 0, none⟩)), (5, .pointer (some ⟨b2, 0, none⟩)), (6, .slice A9 x8.length cp10), (14, .slice A_a1 a1.length c_a1), (15, .int .i64 (a1.length : Int)), (16, .int .i64 x11), (20, .nilIface)]) (by (try simp only [hd26]); kernel_rfl) ?_
          refine OpsT.pures (r := []) [0, 1, 2] [0, 4, 5, 6, 14, 15, 16, 20, 22, 23] (S' := [(0, .int .i64 a0), (4, .pointer (some ⟨b1, 0, none⟩)), (5, .pointer (some ⟨b2, 0, none⟩)), (6, .slice A9 x8.length cp10), (14, .slice A_a1 a1.length c_a1), (15, .int .i64 (a1.length : Int)), (16, .int .i64 x11), (20, .nilIface), (22, .bool false), (23, .int .i64 0)]) (by kernel_rfl) ?_
          refine OpsT.done ?_
          refine Qn.then ?_
          refine CodT.no (by kernel_rfl) ?_
          refine CodT.seq ?_
          refine CodT.regionL [0, 1, 2] (by kernel_rfl) ?_
          refine OpsT.pures (r := []) [0, 1, 2] [0, 4, 5, 6, 14, 15, 16, 20, 29, 30] (S' := [(0, .int .i64 a0), (4, .pointer (some ⟨b1, 0, none⟩)), (5, .pointer (some ⟨b2, 0, none⟩)), (6, .slice A9 x8.length cp10), (14, .slice A_a1 a1.length c_a1), (15, .int .i64 (a1.length : Int)), (16, .int .i64 x11), (20, .nilIface), (29, .bool false), (30, .string (⟨#[]⟩ : ByteArray))]) (by kernel_rfl) ?_
          refine OpsT.done ?_
          refine Qn.then ?_
          refine CodT.no (by kernel_rfl) ?_
          refine CodT.seq ?_
          refine CodT.regionL [0, 1, 2] (by kernel_rfl) ?_
          refine OpsT.pures (r := []) [0, 1, 2] [0, 4, 5, 6, 14, 15, 16, 34, 35] (S' := [(0, .int .i64 a0), (4, .pointer (some ⟨b1, 0, none⟩)), (5, .pointer (some ⟨b2, 0, none⟩)), (6, .slice A9 x8.length cp10), (14, .slice A_a1 a1.length c_a1), (15, .int .i64 (a1.length : Int)), (16, .int .i64 x11), (34, .bool false), (35, .agg (cA (Value.int .u8) (List.replicate 32 (0 : Int))).toArray)]) (by kernel_rfl) ?_
          refine OpsT.done ?_
          refine Qn.then ?_
          refine CodT.no (by kernel_rfl) ?_
          refine CodT.skip ?_
          refine Qn.block_normal ?_
          refine Qn.block_normal ?_
          have e := someS h2
          subst e
          exact Qn.thenJ fun a ha => ⟨x8, x12, A9, cp10, rfl, ha.keep [0, 4, 5, 6, 14, 15, 16] (by kernel_rfl), hI, hl13⟩
        ·
          simp only [hd26] at h2
          refine OpsT.keep [0, 4, 5, 6, 14, 15, 16, 20] (S' := [(0, .int .i64 a0), (4, .pointer (some ⟨b1, 0, none⟩)), (5, .pointer (some ⟨b2, 0, none⟩)), (6, .slice A9 x8.length cp10), (14, .slice A_a1 a1.length c_a1), (15, .int .i64 (a1.length : Int)), (16, .int .i64 x11), (20, .iface 87 (.string z27))]) (by (try simp only [hd26]); kernel_rfl) ?_
          refine OpsT.pures (r := []) [0, 1, 2] [0, 4, 5, 6, 14, 15, 16, 20, 22, 23] (S' := [(0, .int .i64 a0), (4, .pointer (some ⟨b1, 0, none⟩)), (5, .pointer (some ⟨b2, 0, none⟩)), (6, .slice A9 x8.length cp10), (14, .slice A_a1 a1.length c_a1), (15, .int .i64 (a1.length : Int)), (16, .int .i64 x11), (20, .iface 87 (.string z27)), (22, .bool false), (23, .int .i64 0)]) (by kernel_rfl) ?_
          refine OpsT.done ?_
          refine Qn.then ?_
          refine CodT.no (by kernel_rfl) ?_
          refine CodT.seq ?_
          refine CodT.regionL [0, 1, 2] (by kernel_rfl) ?_
          refine OpsT.pures (r := []) [0, 1, 2] [0, 4, 5, 6, 14, 15, 16, 20, 29, 30] (S' := [(0, .int .i64 a0), (4, .pointer (some ⟨b1, 0, none⟩)), (5, .pointer (some ⟨b2, 0, none⟩)), (6, .slice A9 x8.length cp10), (14, .slice A_a1 a1.length c_a1), (15, .int .i64 (a1.length : Int)), (16, .int .i64 x11), (20, .iface 87 (.string z27)), (29, .bool true), (30, .string z27)]) (by kernel_rfl) ?_
          refine OpsT.done ?_
          refine Qn.then ?_
          refine CodT.yes (by kernel_rfl) ?_
          refine CodT.seq ?_
          refine CodT.regionL [0] (by kernel_rfl) ?_
          refine OpsT.pures (r := []) [0] [0, 4, 5, 6, 10, 14, 15, 16] (S' := [(0, .int .i64 a0), (4, .pointer (some ⟨b1, 0, none⟩)), (5, .pointer (some ⟨b2, 0, none⟩)), (6, .slice A9 x8.length cp10), (10, .string z27), (14, .slice A_a1 a1.length c_a1), (15, .int .i64 (a1.length : Int)), (16, .int .i64 x11)]) (by kernel_rfl) ?_
          refine OpsT.done ?_
          refine Qn.then ?_
          refine CodT.regionL [0, 1, 2] (by kernel_rfl) ?_
          refine OpsT.pures (r := [2]) [0, 1] [0, 4, 5, 6, 14, 15, 16, 31, 32] (S' := [(0, .int .i64 a0), (4, .pointer (some ⟨b1, 0, none⟩)), (5, .pointer (some ⟨b2, 0, none⟩)), (6, .slice A9 x8.length cp10), (14, .slice A_a1 a1.length c_a1), (15, .int .i64 (a1.length : Int)), (16, .int .i64 x11), (31, .string z27), (32, .pointer (some ⟨b2, 2, none⟩))]) (by kernel_rfl) ?_
          have hI := hI.mono (pick2 _ _ _)
          refine OpsT.cons (Does.storeLit (T := 9) (b := b2) (o := 2) (v := .string z27) (l := c_ApiEvent x12) (vs := ([.string z27] : List Value)) (L' := c_ApiEvent (ApiEvent.mk x12.Kind x12.ID z27 x12.Time x12.Len x12.Sum)) (by kernel_rfl) ty9 hI (by kernel_rfl) (by kernel_rfl) (by kernel_rfl) (by kernel_rfl) (by kernel_rfl) ?_)
          intro w hI
          refine OpsT.done ?_
          refine Qn.block_normal ?_
          refine Qn.block_normal ?_
          have hI := hI.mono (pick3 _ _ _ _)
          have hI := hI.mono (pick2 _ _ _)
          have hI := hI.mono (pick3 _ _ _ _)
          have e := someS h2
          subst e
          exact Qn.thenJ fun a ha => ⟨x8, (ApiEvent.mk x12.Kind x12.ID z27 x12.Time x12.Len x12.Sum), A9, cp10, rfl, ha.keep [0, 4, 5, 6, 14, 15, 16] (by kernel_rfl), hI, hl13⟩
        ·
          simp only [hd26] at h2
          refine OpsT.keep [0, 4, 5, 6, 14, 15, 16, 20] (S' := [(0, .int .i64 a0), (4, .pointer (some ⟨b1, 0, none⟩)), (5, .pointer (some ⟨b2, 0, none⟩)), (6, .slice A9 x8.length cp10), (14, .slice A_a1 a1.length c_a1), (15, .int .i64 (a1.length : Int)), (16, .int .i64 x11), (20, .iface 119 (.int .i64 z28))]) (by (try simp only [hd26]); kernel_rfl) ?_
          refine OpsT.pures (r := []) [0, 1, 2] [0, 4, 5, 6, 14, 15, 16, 20, 22, 23] (S' := [(0, .int .i64 a0), (4, .pointer (some ⟨b1, 0, none⟩)), (5, .pointer (some ⟨b2, 0, none⟩)), (6, .slice A9 x8.length cp10), (14, .slice A_a1 a1.length c_a1), (15, .int .i64 (a1.length : Int)), (16, .int .i64 x11), (20, .iface 119 (.int .i64 z28)), (22, .bool true), (23, .int .i64 z28)]) (by kernel_rfl) ?_
          refine OpsT.done ?_
          refine Qn.then ?_
          refine CodT.yes (by kernel_rfl) ?_
          refine CodT.seq ?_
          refine CodT.regionL [0] (by kernel_rfl) ?_
          refine OpsT.pures (r := []) [0] [0, 4, 5, 6, 9, 14, 15, 16] (S' := [(0, .int .i64 a0), (4, .pointer (some ⟨b1, 0, none⟩)), (5, .pointer (some ⟨b2, 0, none⟩)), (6, .slice A9 x8.length cp10), (9, .int .i64 z28), (14, .slice A_a1 a1.length c_a1), (15, .int .i64 (a1.length : Int)), (16, .int .i64 x11)]) (by kernel_rfl) ?_
          refine OpsT.done ?_
          refine Qn.then ?_
          refine CodT.regionL [0, 1, 2, 3, 4] (by kernel_rfl) ?_
          refine OpsT.pures (r := [2, 3, 4]) [0, 1] [0, 4, 5, 14, 15, 16, 24, 25] (S' := [(0, .int .i64 a0), (4, .pointer (some ⟨b1, 0, none⟩)), (5, .pointer (some ⟨b2, 0, none⟩)), (14, .slice A_a1 a1.length c_a1), (15, .int .i64 (a1.length : Int)), (16, .int .i64 x11), (24, .slice A9 x8.length cp10), (25, .int .i64 z28)]) (by kernel_rfl) ?_
          refine OpsT.cons (Does.buildSlice (en := (cI .i64)) (d := 26) (n := 1) (T := 121) (ps := [(0, .int .i64 z28)]) ([z28] : List Int) (by kernel_rfl) Go.Proofs.Tryd.underlying121 ty3 (by kernel_rfl) (by kernel_rfl) (by kernel_rfl) (by kernel_rfl) (len_all (fun _ => rfl)) hI ?_)
          intro b30 w hI
          obtain ⟨hg31, h2⟩ := guardS h2
          have hI := hI.mono (pick2 _ _ _)
          refine OpsT.cons (Does.append (d := 27) (t := 121) (tx := 121) (ty := 121) (ys := x8) (zs := ([z28] : List Int)) (x := .slice (some ⟨b30, 0, none⟩) (([z28] : List Int).length) 1) (by kernel_rfl) Go.Proofs.Tryd.underlying121 ty3 (by kernel_rfl) hI (src_own Go.Proofs.Tryd.underlying121 (hI.mono (pick2 _ _ _)) (one_flat _ (fun _ => rfl))) (ownS_facts (hI.mono (pick2 _ _ _))).2.2 (by unfold LIM at hg31; omega) hg31 ?_)
          intro A32 cp33 w hI
          refine OpsT.pures (r := []) [4] [0, 4, 5, 6, 14, 15, 16] (S' := [(0, .int .i64 a0), (4, .pointer (some ⟨b1, 0, none⟩)), (5, .pointer (some ⟨b2, 0, none⟩)), (6, .slice A32 ((x8 ++ ([z28] : List Int)).length) cp33), (14, .slice A_a1 a1.length c_a1), (15, .int .i64 (a1.length : Int)), (16, .int .i64 x11)]) (by kernel_rfl) ?_
          refine OpsT.done ?_
          refine Qn.block_normal ?_
          refine Qn.block_normal ?_
          have hI := hI.mono (pick2 _ _ _)
          have hI := hI.drop
          have e := someS h2
          subst e
          exact Qn.thenJ fun a ha => ⟨x8 ++ ([z28] : List Int), x12, A32, cp33, rfl, ha.keep [0, 4, 5, 6, 14, 15, 16] (by kernel_rfl), hI, hl13⟩
        ·
          simp only [hd26] at h2
          obtain ⟨hg34, h2⟩ := guardS h2
          refine OpsT.keep [0, 4, 5, 6, 14, 15, 16, 20] (S' := [(0, .int .i64 a0), (4, .pointer (some ⟨b1, 0, none⟩)), (5, .pointer (some ⟨b2, 0, none⟩)), (6, .slice A9 x8.length cp10), (14, .slice A_a1 a1.length c_a1), (15, .int .i64 (a1.length : Int)), (16, .int .i64 x11), (20, .iface 120 (.agg (cA (Value.int .u8) z29).toArray))]) (by (try simp only [hd26]); kernel_rfl) ?_
          refine OpsT.pures (r := []) [0, 1, 2] [0, 4, 5, 6, 14, 15, 16, 20, 22, 23] (S' := [(0, .int .i64 a0), (4, .pointer (some ⟨b1, 0, none⟩)), (5, .pointer (some ⟨b2, 0, none⟩)), (6, .slice A9 x8.length cp10), (14, .slice A_a1 a1.length c_a1), (15, .int .i64 (a1.length : Int)), (16, .int .i64 x11), (20, .iface 120 (.agg (cA (Value.int .u8) z29).toArray)), (22, .bool false), (23, .int .i64 0)]) (by kernel_rfl) ?_
          refine OpsT.done ?_
          refine Qn.then ?_
          refine CodT.no (by kernel_rfl) ?_
          refine CodT.seq ?_
          refine CodT.regionL [0, 1, 2] (by kernel_rfl) ?_
          refine OpsT.pures (r := []) [0, 1, 2] [0, 4, 5, 6, 14, 15, 16, 20, 29, 30] (S' := [(0, .int .i64 a0), (4, .pointer (some ⟨b1, 0, none⟩)), (5, .pointer (some ⟨b2, 0, none⟩)), (6, .slice A9 x8.length cp10), (14, .slice A_a1 a1.length c_a1), (15, .int .i64 (a1.length : Int)), (16, .int .i64 x11), (20, .iface 120 (.agg (cA (Value.int .u8) z29).toArray)), (29, .bool false), (30, .string (⟨#[]⟩ : ByteArray))]) (by kernel_rfl) ?_
          refine OpsT.done ?_
          refine Qn.then ?_
          refine CodT.no (by kernel_rfl) ?_
          refine CodT.seq ?_
          refine CodT.regionL [0, 1, 2] (by kernel_rfl) ?_
          refine OpsT.pures (r := []) [0, 1, 2] [0, 4, 5, 6, 14, 15, 16, 34, 35] (S' := [(0, .int .i64 a0), (4, .pointer (some ⟨b1, 0, none⟩)), (5, .pointer (some ⟨b2, 0, none⟩)), (6, .slice A9 x8.length cp10), (14, .slice A_a1 a1.length c_a1), (15, .int .i64 (a1.length : Int)), (16, .int .i64 x11), (34, .bool true), (35, .agg (cA (Value.int .u8) z29).toArray)]) (by kernel_rfl) ?_
          refine OpsT.done ?_
          refine Qn.then ?_
          refine CodT.yes (by kernel_rfl) ?_
          refine CodT.seq ?_
          refine CodT.regionL [0, 1] (by kernel_rfl) ?_
          refine OpsT.cons (Does.allocL (d := 11) (T := 120) (cA (Value.int .u8) (List.replicate 32 (0 : Int))) (by kernel_rfl) ty120 hI (by kernel_rfl) ?_)
          intro b35 w hI
          refine OpsT.cons (Does.storeAll (T := 120) (b := b35) (n := 32) (xs := (List.replicate 32 (0 : Int))) (ys := z29) (by kernel_rfl) ty120 hI (fun _ => rfl) (by kernel_rfl) hg34 ?_)
          intro w hI
          refine OpsT.done ?_
          refine Qn.then ?_
          refine CodT.regionL [0, 1, 2] (by kernel_rfl) ?_
          refine OpsT.cons (Does.yi (Yl.load (d := 36) (T := 120) (v := .agg (cA (Value.int .u8) z29).toArray) (by kernel_rfl) (ldBN ty120 (l := cA (Value.int .u8) z29) (o := 0) (cs := cA (Value.int .u8) z29) (ent_refl _) ((cA_length _ _).trans hg34) (whole _ _ ((cA_length _ _).trans hg34)))) hI ?_)
          refine OpsT.pures (r := [2]) [1] [0, 4, 5, 6, 14, 15, 16, 36, 37] (S' := [(0, .int .i64 a0), (4, .pointer (some ⟨b1, 0, none⟩)), (5, .pointer (some ⟨b2, 0, none⟩)), (6, .slice A9 x8.length cp10), (14, .slice A_a1 a1.length c_a1), (15, .int .i64 (a1.length : Int)), (16, .int .i64 x11), (36, .agg (cA (Value.int .u8) z29).toArray), (37, .pointer (some ⟨b2, 5, none⟩))]) (by kernel_rfl) ?_
          have hI := hI.mono (pick3 _ _ _ _)
          refine OpsT.cons (Does.storeLit (T := 33) (b := b2) (o := 5) (v := .agg (cA (Value.int .u8) z29).toArray) (l := c_ApiEvent x12) (vs := cA (Value.int .u8) z29) (L' := c_ApiEvent (ApiEvent.mk x12.Kind x12.ID x12.Name x12.Time x12.Len z29)) (by kernel_rfl) ty33 hI (by kernel_rfl) ((cA_length _ _).trans hg34) (by rw [(len_ApiEvent _ hl13)]; kernel_rfl) (ones_cA _) (tail_all _ _ _ _ _ (by kernel_rfl) (Eq.trans hg34 (Eq.symm hl13))) ?_)
          intro w hI
          refine OpsT.done ?_
          refine Qn.block_normal ?_
          refine Qn.block_normal ?_
          have hI := hI.mono (pick2 _ _ _)
          have hI := hI.drop
          have hI := hI.mono (pick3 _ _ _ _)
          have hI := hI.mono (pick2 _ _ _)
          have hI := hI.mono (pick3 _ _ _ _)
          have e := someS h2
          subst e
          exact Qn.thenJ fun a ha => ⟨x8, (ApiEvent.mk x12.Kind x12.ID x12.Name x12.Time x12.Len z29), A9, cp10, rfl, ha.keep [0, 4, 5, 6, 14, 15, 16] (by kernel_rfl), hI, hg34⟩
      ·
        rintro a w ⟨x15, x18, A16, cp17, rfl, ha, hI, hl19⟩
        try dsimp only at h1
        refine CodT.of ?_ ha
        refine CodT.regionL [0, 1] (by kernel_rfl) ?_
        refine OpsT.pures (r := []) [0, 1] [0, 4, 5, 6, 14, 15, 16] (S' := [(0, .int .i64 a0), (4, .pointer (some ⟨b1, 0, none⟩)), (5, .pointer (some ⟨b2, 0, none⟩)), (6, .slice A16 x15.length cp17), (14, .slice A_a1 a1.length c_a1), (15, .int .i64 (a1.length : Int)), (16, .int .i64 (wi64 (x11 + 1)))]) (by kernel_rfl) ?_
        refine OpsT.done ?_
        exact Qn.thenJ fun a ha => ⟨k, Nat.lt_succ_self k, x15, wi64 (x11 + 1), x18, A16, cp17, h1, ha.keep [0, 4, 5, 6, 14, 15, 16] (by kernel_rfl), hI, hl19⟩
    · rw [if_neg hb14] at h1
      refine CodT.no' (b := decide (x11 < (a1.length : Int))) (by kernel_rfl) (by simpa using hb14) ?_
      refine CodT.exit ?_
      refine Qn.exit_then ?_
      refine Qn.exit_then ?_
      refine Qn.block ?_
      have e := someS h1
      subst e
      exact Qn.thenJ fun a ha => ⟨x8, x12, A9, cp10, rfl, ha.keep [0, 4, 5, 6] (by kernel_rfl), hI, hl13⟩
  ·
    rintro a w ⟨x3, x6, A4, cp5, rfl, ha, hI, hl7⟩
    try dsimp only at h0
    refine Qn.of ?_ ha
    refine Qn.then ?_
    obtain ⟨r1, h1, h0⟩ := bindS h0
    refine CodT.meet (fun a w => ∃ (x36 : ApiEvent), .inr x36 = r1 ∧ Fr 74 [(4, .pointer (some ⟨b1, 0, none⟩)), (5, .pointer (some ⟨b2, 0, none⟩)), (6, .slice A4 x3.length cp5)] a ∧ Inv w0 Z w (star (pt b2 (.cells (c_ApiEvent x36).toArray 35 (0, 0))) (star (pt b1 (.cells (c_ApiEvent (ApiEvent.mk 0 0 (⟨#[]⟩ : ByteArray) 0 0 (List.replicate 32 (0 : Int)))).toArray 35 (0, 0))) (star (ownS 3 (cI .i64) 1 A4 cp5 x3) A))) ∧ x36.Sum.length = 32) ?_ ?_
    ·
      refine CodT.seq ?_
      refine CodT.regionL [0] (by kernel_rfl) ?_
      refine OpsT.pures (r := []) [0] [4, 5, 6, 39] (S' := [(4, .pointer (some ⟨b1, 0, none⟩)), (5, .pointer (some ⟨b2, 0, none⟩)), (6, .slice A4 x3.length cp5), (39, .int .i64 a0)]) (by kernel_rfl) ?_
      refine OpsT.done ?_
      refine Qn.then ?_
      refine CodT.block ?_
      refine CodT.seq ?_
      refine CodT.regionL [0, 1] (by kernel_rfl) ?_
      refine OpsT.pures (r := []) [0, 1] [4, 5, 6, 39, 40] (S' := [(4, .pointer (some ⟨b1, 0, none⟩)), (5, .pointer (some ⟨b2, 0, none⟩)), (6, .slice A4 x3.length cp5), (39, .int .i64 a0), (40, .bool (a0 == 7))]) (by kernel_rfl) ?_
      refine OpsT.done ?_
      refine Qn.then ?_
      by_cases hb38 : (a0 == 7) = true
      · rw [if_pos hb38] at h1
        refine CodT.yes' (b := a0 == 7) (by kernel_rfl) hb38 ?_
        refine CodT.seq ?_
        refine CodT.regionL [0, 1, 2, 3, 4] (by kernel_rfl) ?_
        refine OpsT.pures (r := [1, 2, 3, 4]) [0] [4, 5, 42] (S' := [(4, .pointer (some ⟨b1, 0, none⟩)), (5, .pointer (some ⟨b2, 0, none⟩)), (42, .slice A4 x3.length cp5)]) (by kernel_rfl) ?_
        obtain ⟨hg39, h1⟩ := guardS h1
        obtain ⟨g40, hA41, hr42, hl43⟩ := ownS_get hI hg39.1 hg39.2
        refine OpsT.cons (Does.yi (Yl.indexSlice (d := 43) (T := 121) (cc := cp5) (k := .i64) (j := 0) (g := g40) (o := 0) (by kernel_rfl) Go.Proofs.Tryd.underlying121 ty3 hA41 hg39.1 hg39.2) hI ?_)
        refine OpsT.cons (Does.yi (Yl.load (d := 44) (T := 3) (v := .int .i64 (gt x3 0)) (by kernel_rfl) (ldR ty3 (v := .int .i64 (gt x3 0)) 0 (fun w hC => hr42 w0 w _ hC) (by kernel_rfl))) hI ?_)
        refine OpsT.pures (r := [4]) [3] [4, 5, 44, 45] (S' := [(4, .pointer (some ⟨b1, 0, none⟩)), (5, .pointer (some ⟨b2, 0, none⟩)), (44, .int .i64 (gt x3 0)), (45, .pointer (some ⟨b2, 3, none⟩))]) (by kernel_rfl) ?_
        have hI := hI.mono (pick2 _ _ _)
        refine OpsT.cons (Does.storeLit (T := 3) (b := b2) (o := 3) (v := .int .i64 (gt x3 0)) (l := c_ApiEvent x6) (vs := ([.int .i64 (gt x3 0)] : List Value)) (L' := c_ApiEvent (ApiEvent.mk x6.Kind x6.ID x6.Name (gt x3 0) x6.Len x6.Sum)) (by kernel_rfl) ty3 hI (by kernel_rfl) (by kernel_rfl) (by kernel_rfl) (by kernel_rfl) (by kernel_rfl) ?_)
        intro w hI
        refine OpsT.done ?_
        refine Qn.then ?_
        refine CodT.seq ?_
        refine CodT.regionL [0, 1] (by kernel_rfl) ?_
        refine OpsT.cons (Does.yi (Yl.load (d := 46) (T := 35) (v := .agg (c_ApiEvent (ApiEvent.mk x6.Kind x6.ID x6.Name (gt x3 0) x6.Len x6.Sum)).toArray) (by kernel_rfl) (ldBN ty35 (l := c_ApiEvent (ApiEvent.mk x6.Kind x6.ID x6.Name (gt x3 0) x6.Len x6.Sum)) (o := 0) (cs := c_ApiEvent (ApiEvent.mk x6.Kind x6.ID x6.Name (gt x3 0) x6.Len x6.Sum)) (ent_refl _) (len_ApiEvent _ hl7) (whole _ _ (len_ApiEvent _ hl7)))) hI ?_)
        have hI := hI.mono (pick3 _ _ _ _)
        refine OpsT.cons (Does.storeLit (T := 35) (b := b1) (o := 0) (v := .agg (c_ApiEvent (ApiEvent.mk x6.Kind x6.ID x6.Name (gt x3 0) x6.Len x6.Sum)).toArray) (l := c_ApiEvent (ApiEvent.mk 0 0 (⟨#[]⟩ : ByteArray) 0 0 (List.replicate 32 (0 : Int)))) (vs := c_ApiEvent (ApiEvent.mk x6.Kind x6.ID x6.Name (gt x3 0) x6.Len x6.Sum)) (L' := c_ApiEvent (ApiEvent.mk x6.Kind x6.ID x6.Name (gt x3 0) x6.Len x6.Sum)) (by kernel_rfl) ty35 hI (by kernel_rfl) (len_ApiEvent _ hl7) (by rw [(len_ApiEvent _ (by kernel_rfl))]; kernel_rfl) (ones_app _ _ (by kernel_rfl) (ones_cA _)) (lset_all _ _ (Eq.trans (len_ApiEvent _ hl7) (Eq.symm (len_ApiEvent _ (by kernel_rfl))))) ?_)
        intro w hI
        refine OpsT.done ?_
        refine Qn.then ?_
        refine CodT.ret ?_
        refine Qn.block_ret ?_
        refine Qn.ret_then ?_
        have hL44 := (ldBN ty35 (l := c_ApiEvent (ApiEvent.mk x6.Kind x6.ID x6.Name (gt x3 0) x6.Len x6.Sum)) (o := 0) (cs := c_ApiEvent (ApiEvent.mk x6.Kind x6.ID x6.Name (gt x3 0) x6.Len x6.Sum)) (ent_refl _) (len_ApiEvent _ hl7) (whole _ _ (len_ApiEvent _ hl7))) w hI
        have hI := hI.drop
        have hI := hI.drop
        have hI := hI.drop
        have e := someS h1
        subst e
        try dsimp only at h0
        have e := someS h0
        subst e
        refine Qn.keep [4] (S' := [(4, .pointer (some ⟨b1, 0, none⟩))]) (by kernel_rfl) ?_
        exact post_ret (v := .agg (c_ApiEvent (ApiEvent.mk x6.Kind x6.ID x6.Name (gt x3 0) x6.Len x6.Sum)).toArray) (fun a ha => RunRes.run (vs := [.agg (c_ApiEvent (ApiEvent.mk x6.Kind x6.ID x6.Name (gt x3 0) x6.Len x6.Sum)).toArray]) (.cell (t := 4) (T := 35) (ad := ⟨b1, 0, none⟩) (by kernel_rfl) hL44 .nil) ha (by kernel_rfl)) ⟨rfl, hl7, hI⟩
      · rw [if_neg hb38] at h1
        refine CodT.no' (b := a0 == 7) (by kernel_rfl) (by simpa using hb38) ?_
        refine CodT.seq ?_
        refine CodT.regionL [0, 1] (by kernel_rfl) ?_
        refine OpsT.pures (r := []) [0, 1] [4, 5, 6, 39, 47] (S' := [(4, .pointer (some ⟨b1, 0, none⟩)), (5, .pointer (some ⟨b2, 0, none⟩)), (6, .slice A4 x3.length cp5), (39, .int .i64 a0), (47, .bool (a0 == 1))]) (by kernel_rfl) ?_
        refine OpsT.done ?_
        refine Qn.then ?_
        by_cases hb45 : (a0 == 1) = true
        · rw [if_pos hb45] at h1
          refine CodT.yes' (b := a0 == 1) (by kernel_rfl) hb45 ?_
          refine CodT.regionL [0, 1, 2, 3, 4] (by kernel_rfl) ?_
          refine OpsT.pures (r := [1, 2, 3, 4]) [0] [4, 5, 6, 49] (S' := [(4, .pointer (some ⟨b1, 0, none⟩)), (5, .pointer (some ⟨b2, 0, none⟩)), (6, .slice A4 x3.length cp5), (49, .slice A4 x3.length cp5)]) (by kernel_rfl) ?_
          obtain ⟨hg46, h1⟩ := guardS h1
          obtain ⟨g47, hA48, hr49, hl50⟩ := ownS_get hI hg46.1 hg46.2
          refine OpsT.cons (Does.yi (Yl.indexSlice (d := 50) (T := 121) (cc := cp5) (k := .i64) (j := 1) (g := g47) (o := 0) (by kernel_rfl) Go.Proofs.Tryd.underlying121 ty3 hA48 hg46.1 hg46.2) hI ?_)
          refine OpsT.cons (Does.yi (Yl.load (d := 51) (T := 3) (v := .int .i64 (gt x3 1)) (by kernel_rfl) (ldR ty3 (v := .int .i64 (gt x3 1)) 0 (fun w hC => hr49 w0 w _ hC) (by kernel_rfl))) hI ?_)
          refine OpsT.pures (r := [4]) [3] [4, 5, 6, 51, 52] (S' := [(4, .pointer (some ⟨b1, 0, none⟩)), (5, .pointer (some ⟨b2, 0, none⟩)), (6, .slice A4 x3.length cp5), (51, .int .i64 (gt x3 1)), (52, .pointer (some ⟨b2, 4, none⟩))]) (by kernel_rfl) ?_
          have hI := hI.mono (pick2 _ _ _)
          refine OpsT.cons (Does.storeLit (T := 3) (b := b2) (o := 4) (v := .int .i64 (gt x3 1)) (l := c_ApiEvent x6) (vs := ([.int .i64 (gt x3 1)] : List Value)) (L' := c_ApiEvent (ApiEvent.mk x6.Kind x6.ID x6.Name x6.Time (gt x3 1) x6.Sum)) (by kernel_rfl) ty3 hI (by kernel_rfl) (by kernel_rfl) (by kernel_rfl) (by kernel_rfl) (by kernel_rfl) ?_)
          intro w hI
          refine OpsT.done ?_
          refine Qn.block_normal ?_
          have hI := hI.mono (pick2 _ _ _)
          have hI := hI.mono (pick3 _ _ _ _)
          have hI := hI.mono (pick3 _ _ _ _)
          have e := someS h1
          subst e
          exact Qn.thenJ fun a ha => ⟨(ApiEvent.mk x6.Kind x6.ID x6.Name x6.Time (gt x3 1) x6.Sum), rfl, ha.keep [4, 5, 6] (by kernel_rfl), hI, hl7⟩
        · rw [if_neg hb45] at h1
          refine CodT.no' (b := a0 == 1) (by kernel_rfl) (by simpa using hb45) ?_
          refine CodT.seq ?_
          refine CodT.regionL [0, 1] (by kernel_rfl) ?_
          refine OpsT.pures (r := []) [0, 1] [4, 5, 6, 39, 53] (S' := [(4, .pointer (some ⟨b1, 0, none⟩)), (5, .pointer (some ⟨b2, 0, none⟩)), (6, .slice A4 x3.length cp5), (39, .int .i64 a0), (53, .bool (a0 == 2))]) (by kernel_rfl) ?_
          refine OpsT.done ?_
          refine Qn.then ?_
          by_cases hb51 : (a0 == 2) = true
          · rw [if_pos hb51] at h1
            refine CodT.yes' (b := a0 == 2) (by kernel_rfl) hb51 ?_
            refine CodT.drawC (n := 10) (B := (star (ownS 3 (cI .i64) 1 A4 cp5 x3) (star (pt b1 (.cells (c_ApiEvent (ApiEvent.mk 0 0 (⟨#[]⟩ : ByteArray) 0 0 (List.replicate 32 (0 : Int)))).toArray 35 (0, 0))) A))) [] (by kernel_rfl) (by kernel_rfl) hI ?_
            intro w hI
            refine GmT.p' 0 55 (.slice A4 x3.length cp5) (by kernel_rfl) (by kernel_rfl) ?_
            refine GmT.p' 3 58 (.slice A4 x3.length cp5) (by kernel_rfl) (by kernel_rfl) ?_
            obtain ⟨hg52, h1⟩ := guardS h1
            obtain ⟨g53, hA54, hr55, hl56⟩ := ownS_get hI hg52.1 hg52.2
            have hC := hI
            have hC := hC.mono (pick2 _ _ _)
            have hC := hC.drop
            refine GmT.r (i := 1) 2 (by kernel_rfl) (by kernel_rfl) (Yl.indexSlice (d := 56) (T := 121) (cc := cp5) (k := .i64) (j := 1) (g := g53) (o := 0) (by kernel_rfl) Go.Proofs.Tryd.underlying121 ty3 hA54 hg52.1 hg52.2) hC ?_
            have hC := hI
            have hC := hC.mono (pick2 _ _ _)
            have hC := hC.drop
            refine GmT.r (i := 2) 2 (by kernel_rfl) (by kernel_rfl) (Yl.load (d := 57) (T := 3) (v := .int .i64 (gt x3 1)) (by kernel_rfl) (ldR ty3 (v := .int .i64 (gt x3 1)) 0 (fun w hC => hr55 w0 w _ hC) (by kernel_rfl))) hC ?_
            refine GmT.p' 6 61 (.pointer (some ⟨b2, 3, none⟩)) (by kernel_rfl) (by kernel_rfl) ?_
            obtain ⟨hg57, h1⟩ := guardS h1
            obtain ⟨g58, hA59, hr60, hl61⟩ := ownS_get hI hg57.1 hg57.2
            have hC := hI
            have hC := hC.mono (pick2 _ _ _)
            have hC := hC.drop
            refine GmT.r (i := 4) 2 (by kernel_rfl) (by kernel_rfl) (Yl.indexSlice (d := 59) (T := 121) (cc := cp5) (k := .i64) (j := 2) (g := g58) (o := 0) (by kernel_rfl) Go.Proofs.Tryd.underlying121 ty3 hA59 hg57.1 hg57.2) hC ?_
            have hC := hI
            have hC := hC.mono (pick2 _ _ _)
            have hC := hC.drop
            refine GmT.r (i := 5) 2 (by kernel_rfl) (by kernel_rfl) (Yl.load (d := 60) (T := 3) (v := .int .i64 (gt x3 2)) (by kernel_rfl) (ldR ty3 (v := .int .i64 (gt x3 2)) 0 (fun w hC => hr60 w0 w _ hC) (by kernel_rfl))) hC ?_
            have hI := hI.mono (pick2 _ _ _)
            refine GmT.o (i := 7) (by kernel_rfl) (Does.storeLit (T := 3) (b := b2) (o := 3) (v := .int .i64 (gt x3 1)) (l := c_ApiEvent x6) (vs := ([.int .i64 (gt x3 1)] : List Value)) (L' := c_ApiEvent (ApiEvent.mk x6.Kind x6.ID x6.Name (gt x3 1) x6.Len x6.Sum)) (by kernel_rfl) ty3 hI (by kernel_rfl) (by kernel_rfl) (by kernel_rfl) (by kernel_rfl) (by kernel_rfl) ?_)
            intro w hI
            have hC := hI
            have hC := hC.drop
            refine ⟨fun _ _ => hC, ?_⟩
            refine GmT.p' 8 62 (.pointer (some ⟨b2, 4, none⟩)) (by kernel_rfl) (by kernel_rfl) ?_
            refine GmT.o (i := 9) (by kernel_rfl) (Does.storeLit (T := 3) (b := b2) (o := 4) (v := .int .i64 (gt x3 2)) (l := c_ApiEvent (ApiEvent.mk x6.Kind x6.ID x6.Name (gt x3 1) x6.Len x6.Sum)) (vs := ([.int .i64 (gt x3 2)] : List Value)) (L' := c_ApiEvent (ApiEvent.mk x6.Kind x6.ID x6.Name (gt x3 1) (gt x3 2) x6.Sum)) (by kernel_rfl) ty3 hI (by kernel_rfl) (by kernel_rfl) (by kernel_rfl) (by kernel_rfl) (by kernel_rfl) ?_)
            intro w hI
            have hC := hI
            have hC := hC.drop
            refine ⟨fun _ _ => hC, ?_⟩
            refine GmT.done (by kernel_rfl) ?_
            refine Qn.block_normal ?_
            have hI := hI.mono (pick2 _ _ _)
            have hI := hI.mono (pick3 _ _ _ _)
            have hI := hI.mono (pick3 _ _ _ _)
            have e := someS h1
            subst e
            exact Qn.thenJ fun a ha => ⟨(ApiEvent.mk x6.Kind x6.ID x6.Name (gt x3 1) (gt x3 2) x6.Sum), rfl, ha.keep [4, 5, 6] (by kernel_rfl), hI, hl7⟩
          · rw [if_neg hb51] at h1
            refine CodT.no' (b := a0 == 2) (by kernel_rfl) (by simpa using hb51) ?_
            refine CodT.seq ?_
            refine CodT.regionL [0, 1] (by kernel_rfl) ?_
            refine OpsT.pures (r := []) [0, 1] [4, 5, 6, 63] (S' := [(4, .pointer (some ⟨b1, 0, none⟩)), (5, .pointer (some ⟨b2, 0, none⟩)), (6, .slice A4 x3.length cp5), (63, .bool (a0 == 3))]) (by kernel_rfl) ?_
            refine OpsT.done ?_
            refine Qn.then ?_
            by_cases hb62 : (a0 == 3) = true
            · rw [if_pos hb62] at h1
              refine CodT.yes' (b := a0 == 3) (by kernel_rfl) hb62 ?_
              refine CodT.regionL [0, 1, 2, 3, 4] (by kernel_rfl) ?_
              refine OpsT.pures (r := [1, 2, 3, 4]) [0] [4, 5, 6, 65] (S' := [(4, .pointer (some ⟨b1, 0, none⟩)), (5, .pointer (some ⟨b2, 0, none⟩)), (6, .slice A4 x3.length cp5), (65, .slice A4 x3.length cp5)]) (by kernel_rfl) ?_
              obtain ⟨hg63, h1⟩ := guardS h1
              obtain ⟨g64, hA65, hr66, hl67⟩ := ownS_get hI hg63.1 hg63.2
              refine OpsT.cons (Does.yi (Yl.indexSlice (d := 66) (T := 121) (cc := cp5) (k := .i64) (j := 1) (g := g64) (o := 0) (by kernel_rfl) Go.Proofs.Tryd.underlying121 ty3 hA65 hg63.1 hg63.2) hI ?_)
              refine OpsT.cons (Does.yi (Yl.load (d := 67) (T := 3) (v := .int .i64 (gt x3 1)) (by kernel_rfl) (ldR ty3 (v := .int .i64 (gt x3 1)) 0 (fun w hC => hr66 w0 w _ hC) (by kernel_rfl))) hI ?_)
              refine OpsT.pures (r := [4]) [3] [4, 5, 6, 67, 68] (S' := [(4, .pointer (some ⟨b1, 0, none⟩)), (5, .pointer (some ⟨b2, 0, none⟩)), (6, .slice A4 x3.length cp5), (67, .int .i64 (gt x3 1)), (68, .pointer (some ⟨b2, 3, none⟩))]) (by kernel_rfl) ?_
              have hI := hI.mono (pick2 _ _ _)
              refine OpsT.cons (Does.storeLit (T := 3) (b := b2) (o := 3) (v := .int .i64 (gt x3 1)) (l := c_ApiEvent x6) (vs := ([.int .i64 (gt x3 1)] : List Value)) (L' := c_ApiEvent (ApiEvent.mk x6.Kind x6.ID x6.Name (gt x3 1) x6.Len x6.Sum)) (by kernel_rfl) ty3 hI (by kernel_rfl) (by kernel_rfl) (by kernel_rfl) (by kernel_rfl) (by kernel_rfl) ?_)
              intro w hI
              refine OpsT.done ?_
              refine Qn.block_normal ?_
              have hI := hI.mono (pick2 _ _ _)
              have hI := hI.mono (pick3 _ _ _ _)
              have hI := hI.mono (pick3 _ _ _ _)
              have e := someS h1
              subst e
              exact Qn.thenJ fun a ha => ⟨(ApiEvent.mk x6.Kind x6.ID x6.Name (gt x3 1) x6.Len x6.Sum), rfl, ha.keep [4, 5, 6] (by kernel_rfl), hI, hl7⟩
            · rw [if_neg hb62] at h1
              refine CodT.no' (b := a0 == 3) (by kernel_rfl) (by simpa using hb62) ?_
              refine CodT.skip ?_
              refine Qn.block_normal ?_
              have hI := hI.mono (pick3 _ _ _ _)
              have hI := hI.mono (pick3 _ _ _ _)
              have e := someS h1
              subst e
              exact Qn.thenJ fun a ha => ⟨x6, rfl, ha.keep [4, 5, 6] (by kernel_rfl), hI, hl7⟩
    ·
      rintro a w ⟨x36, rfl, ha, hI, hl37⟩
      try dsimp only at h0
      refine CodT.of ?_ ha
      refine CodT.seq ?_
      refine CodT.regionL [0, 1, 2, 3, 4] (by kernel_rfl) ?_
      refine OpsT.pures (r := [1, 2, 3, 4]) [0] [4, 5, 69] (S' := [(4, .pointer (some ⟨b1, 0, none⟩)), (5, .pointer (some ⟨b2, 0, none⟩)), (69, .slice A4 x3.length cp5)]) (by kernel_rfl) ?_
      obtain ⟨hg68, h0⟩ := guardS h0
      obtain ⟨g69, hA70, hr71, hl72⟩ := ownS_get (hI.mono (pick3 _ _ _ _)) hg68.1 hg68.2
      refine OpsT.cons (Does.yi (Yl.indexSlice (d := 70) (T := 121) (cc := cp5) (k := .i64) (j := 0) (g := g69) (o := 0) (by kernel_rfl) Go.Proofs.Tryd.underlying121 ty3 hA70 hg68.1 hg68.2) hI ?_)
      refine OpsT.cons (Does.yi (Yl.load (d := 71) (T := 3) (v := .int .i64 (gt x3 0)) (by kernel_rfl) (ldR ty3 (v := .int .i64 (gt x3 0)) 0 (fun w hC => hr71 w0 w _ (hC.mono (pick3 _ _ _ _))) (by kernel_rfl))) hI ?_)
      refine OpsT.pures (r := [4]) [3] [4, 5, 71, 72] (S' := [(4, .pointer (some ⟨b1, 0, none⟩)), (5, .pointer (some ⟨b2, 0, none⟩)), (71, .int .i64 (gt x3 0)), (72, .pointer (some ⟨b2, 1, none⟩))]) (by kernel_rfl) ?_
      refine OpsT.cons (Does.storeLit (T := 3) (b := b2) (o := 1) (v := .int .i64 (gt x3 0)) (l := c_ApiEvent x36) (vs := ([.int .i64 (gt x3 0)] : List Value)) (L' := c_ApiEvent (ApiEvent.mk x36.Kind (gt x3 0) x36.Name x36.Time x36.Len x36.Sum)) (by kernel_rfl) ty3 hI (by kernel_rfl) (by kernel_rfl) (by kernel_rfl) (by kernel_rfl) (by kernel_rfl) ?_)
      intro w hI
      refine OpsT.done ?_
      refine Qn.then ?_
      refine CodT.seq ?_
      refine CodT.regionL [0, 1] (by kernel_rfl) ?_
      refine OpsT.cons (Does.yi (Yl.load (d := 73) (T := 35) (v := .agg (c_ApiEvent (ApiEvent.mk x36.Kind (gt x3 0) x36.Name x36.Time x36.Len x36.Sum)).toArray) (by kernel_rfl) (ldBN ty35 (l := c_ApiEvent (ApiEvent.mk x36.Kind (gt x3 0) x36.Name x36.Time x36.Len x36.Sum)) (o := 0) (cs := c_ApiEvent (ApiEvent.mk x36.Kind (gt x3 0) x36.Name x36.Time x36.Len x36.Sum)) (ent_refl _) (len_ApiEvent _ hl37) (whole _ _ (len_ApiEvent _ hl37)))) hI ?_)
      have hI := hI.mono (pick2 _ _ _)
      refine OpsT.cons (Does.storeLit (T := 35) (b := b1) (o := 0) (v := .agg (c_ApiEvent (ApiEvent.mk x36.Kind (gt x3 0) x36.Name x36.Time x36.Len x36.Sum)).toArray) (l := c_ApiEvent (ApiEvent.mk 0 0 (⟨#[]⟩ : ByteArray) 0 0 (List.replicate 32 (0 : Int)))) (vs := c_ApiEvent (ApiEvent.mk x36.Kind (gt x3 0) x36.Name x36.Time x36.Len x36.Sum)) (L' := c_ApiEvent (ApiEvent.mk x36.Kind (gt x3 0) x36.Name x36.Time x36.Len x36.Sum)) (by kernel_rfl) ty35 hI (by kernel_rfl) (len_ApiEvent _ hl37) (by rw [(len_ApiEvent _ (by kernel_rfl))]; kernel_rfl) (ones_app _ _ (by kernel_rfl) (ones_cA _)) (lset_all _ _ (Eq.trans (len_ApiEvent _ hl37) (Eq.symm (len_ApiEvent _ (by kernel_rfl))))) ?_)
      intro w hI
      refine OpsT.done ?_
      refine Qn.then ?_
      refine CodT.ret ?_
      have hL73 := (ldBN ty35 (l := c_ApiEvent (ApiEvent.mk x36.Kind (gt x3 0) x36.Name x36.Time x36.Len x36.Sum)) (o := 0) (cs := c_ApiEvent (ApiEvent.mk x36.Kind (gt x3 0) x36.Name x36.Time x36.Len x36.Sum)) (ent_refl _) (len_ApiEvent _ hl37) (whole _ _ (len_ApiEvent _ hl37))) w hI
      have hI := hI.drop
      have hI := hI.drop
      have hI := hI.drop
      have e := someS h0
      subst e
      refine Qn.keep [4] (S' := [(4, .pointer (some ⟨b1, 0, none⟩))]) (by kernel_rfl) ?_
      exact post_ret (v := .agg (c_ApiEvent (ApiEvent.mk x36.Kind (gt x3 0) x36.Name x36.Time x36.Len x36.Sum)).toArray) (fun a ha => RunRes.run (vs := [.agg (c_ApiEvent (ApiEvent.mk x36.Kind (gt x3 0) x36.Name x36.Time x36.Len x36.Sum)).toArray]) (.cell (t := 4) (T := 35) (ad := ⟨b1, 0, none⟩) (by kernel_rfl) hL73 .nil) ha (by kernel_rfl)) ⟨rfl, hl37, hI⟩
set_option maxRecDepth 100000 in
set_option maxHeartbeats 4000000 in
/-- cenotaph/event.within -/
theorem c38 (w0 w : World) (Z : Hp) (A : HP) (hI : Inv w0 Z w A) (hT : Tabs Z) (a0 : Int) (a1 : Int) (a2 : Int) (r : Bool) (h0 : event_within a0 a1 a2 = some r) :
    Calls prog 38 #[.int .i64 a0, .int .i64 a1, .int .i64 a2] w (fun e w' => e = .returned (.bool r) ∧ Inv w0 Z w' A) := by
  have e4 := calls_intro (R := (fun e w' => e = .returned (.bool r) ∧ Inv w0 Z w' A)) (w := w) (args := [.int .i64 a0, .int .i64 a1, .int .i64 a2]) (fn := Go.Proofs.Tryd.f38) 15 Go.Proofs.Tryd.func38 (by rfl) Go.Proofs.Tryd.ntmps38 (by kernel_rfl)
  refine e4 ?_
  clear e4
  unfold event_within at h0
  refine CodT.seq ?_
  refine CodT.regionL [0] (by kernel_rfl) ?_
  refine OpsT.pures (r := []) [0] [0, 1, 2] (S' := [(0, .int .i64 a0), (1, .int .i64 a1), (2, .int .i64 a2)]) (by kernel_rfl) ?_
  refine OpsT.done ?_
  refine Qn.then ?_
  obtain ⟨r1, h1, h0⟩ := bindS h0
  refine CodT.meet (fun a w => ∃ (x1 : Bool), x1 = r1 ∧ Fr 15 [(6, .bool x1)] a ∧ Inv w0 Z w A) ?_ ?_
  ·
    refine CodT.regionL [0, 1, 2, 3, 4, 5, 6, 7, 8] (by kernel_rfl) ?_
    refine OpsT.pures (r := [4, 5, 6, 7, 8]) [0, 1, 2, 3] [0, 2, 10] (S' := [(0, .int .i64 a0), (2, .int .i64 a2), (10, .bool (decide (a1 ≤ a0)))]) (by kernel_rfl) ?_
    by_cases hb2 : (decide (a1 ≤ a0)) = true
    · rw [if_pos hb2] at h1
      refine OpsT.keep [0, 2, 10] (S' := [(0, .int .i64 a0), (2, .int .i64 a2), (10, .bool true)]) (by (try simp only [hb2]); kernel_rfl) ?_
      refine OpsT.pures (r := []) [4, 5, 6, 7, 8] [6] (S' := [(6, .bool (decide (a0 ≤ a2)))]) (by kernel_rfl) ?_
      refine OpsT.done ?_
      have e := someS h1
      subst e
      exact Qn.thenJ fun a ha => ⟨decide (a0 ≤ a2), rfl, ha.keep [6] (by kernel_rfl), hI⟩
    · rw [if_neg hb2] at h1
      have hb2 : (decide (a1 ≤ a0)) = false := by simpa using hb2
      refine OpsT.keep [0, 2, 10] (S' := [(0, .int .i64 a0), (2, .int .i64 a2), (10, .bool false)]) (by (try simp only [hb2]); kernel_rfl) ?_
      refine OpsT.pures (r := []) [4, 5, 6, 7, 8] [6] (S' := [(6, .bool false)]) (by kernel_rfl) ?_
      refine OpsT.done ?_
      have e := someS h1
      subst e
      exact Qn.thenJ fun a ha => ⟨false, rfl, ha.keep [6] (by kernel_rfl), hI⟩
  ·
    rintro a w ⟨x1, rfl, ha, hI⟩
    try dsimp only at h0
    refine CodT.of ?_ ha
    refine CodT.ret ?_
    have e := someS h0
    subst e
    refine Qn.keep [6] (S' := [(6, .bool x1)]) (by kernel_rfl) ?_
    exact post_ret (v := .bool x1) (fun a ha => RunRes.run (vs := [.bool x1]) (.tmp (t := 6) (by kernel_rfl) .nil) ha (by kernel_rfl)) ⟨rfl, hI⟩
set_option maxRecDepth 100000 in
set_option maxHeartbeats 4000000 in
/-- cenotaph/event.Valid -/
theorem c13 (w0 w : World) (Z : Hp) (A : HP) (hI : Inv w0 Z w A) (hT : Tabs Z) (a0 : ApiEvent) (hl1 : a0.Sum.length = 32) (r : Bool) (h0 : event_Valid a0 = some r) :
    Calls prog 13 #[.agg (c_ApiEvent a0).toArray] w (fun e w' => e = .returned (.bool r) ∧ Inv w0 Z w' A) := by
  have e4 := calls_intro (R := (fun e w' => e = .returned (.bool r) ∧ Inv w0 Z w' A)) (w := w) (args := [.agg (c_ApiEvent a0).toArray]) (fn := Go.Proofs.Tryd.f13) 63 Go.Proofs.Tryd.func13 (by rfl) Go.Proofs.Tryd.ntmps13 (by kernel_rfl)
  refine e4 ?_
  clear e4
  unfold event_Valid at h0
  refine CodT.seq ?_
  refine CodT.regionL [0, 1] (by kernel_rfl) ?_
  refine OpsT.cons (Does.boxL (d := 1) (T := 35) (v := .agg (c_ApiEvent a0).toArray) (c_ApiEvent a0) (by kernel_rfl) hI (by kernel_rfl) ?_)
  intro b2 w hI
  refine OpsT.pures (r := []) [1] [1] (S' := [(1, .pointer (some ⟨b2, 0, none⟩))]) (by kernel_rfl) ?_
  refine OpsT.done ?_
  refine Qn.then ?_
  refine CodT.seq ?_
  refine CodT.regionL [0, 1, 2] (by kernel_rfl) ?_
  refine OpsT.cons (Does.yi (Yl.load (d := 10) (T := 35) (v := .agg (c_ApiEvent a0).toArray) (by kernel_rfl) (ldBN ty35 (l := c_ApiEvent a0) (o := 0) (cs := c_ApiEvent a0) (ent_refl _) (len_ApiEvent _ hl1) (whole _ _ (len_ApiEvent _ hl1)))) hI ?_)
  obtain ⟨y4, hc3, h0⟩ := bindS h0
  try dsimp only at h0
  refine OpsT.cons (Does.call (d := some 11) (n := 36) (vs := [.agg (c_ApiEvent a0).toArray]) (by kernel_rfl) en36 (c36 w0 w _ _ hI hT a0 hl1 _ hc3) ?_)
  rintro e w ⟨A5, cp6, rfl, hI⟩
  refine ⟨_, rfl, ?_⟩
  refine OpsT.pures (r := []) [2] [1, 3] (S' := [(1, .pointer (some ⟨b2, 0, none⟩)), (3, .slice A5 y4.length cp6)]) (by kernel_rfl) ?_
  refine OpsT.done ?_
  refine Qn.then ?_
  obtain ⟨Z7, hle8, hr9, hI⟩ := ownS_freeze hI
  refine CodT.seq ?_
  obtain ⟨r1, h1, h0⟩ := bindS h0
  refine CodT.meet (fun a w => ∃ (x10 : Bool), x10 = r1 ∧ Fr 63 [(1, .pointer (some ⟨b2, 0, none⟩)), (3, .slice A5 y4.length cp6), (22, .bool x10)] a ∧ Inv w0 Z7 w (star (pt b2 (.cells (c_ApiEvent a0).toArray 35 (0, 0))) A)) ?_ ?_
  ·
    refine CodT.drawI (n := 11) [] (by kernel_rfl) (by kernel_rfl) hI ?_
    intro w hI
    refine GmT.p' 0 12 (.slice A5 y4.length cp6) (by kernel_rfl) (by kernel_rfl) ?_
    refine GmT.p' 1 13 (.int .i64 (y4.length : Int)) (by kernel_rfl) (by kernel_rfl) ?_
    refine GmT.p' 2 14 (.bool ((y4.length : Int) == 0)) (by kernel_rfl) (by kernel_rfl) ?_
    refine GmT.p' 3 15 (.bool ((y4.length : Int) == 0)) (by kernel_rfl) (by kernel_rfl) ?_
    by_cases hb11 : ((y4.length : Int) == 0) = true
    · rw [if_pos hb11] at h1
      refine GmT.keep [1, 3, 15] (S' := [(1, .pointer (some ⟨b2, 0, none⟩)), (3, .slice A5 y4.length cp6), (15, .bool true)]) (by (try simp only [hb11]); kernel_rfl) ?_
      refine GmT.p' 4 16 (undef) (by kernel_rfl) (by kernel_rfl) ?_
      refine GmT.p' 5 17 (undef) (by kernel_rfl) (by kernel_rfl) ?_
      refine GmT.p' 6 18 (undef) (by kernel_rfl) (by kernel_rfl) ?_
      refine GmT.p' 7 19 (undef) (by kernel_rfl) (by kernel_rfl) ?_
      refine GmT.p' 8 20 (undef) (by kernel_rfl) (by kernel_rfl) ?_
      refine GmT.p' 9 21 (undef) (by kernel_rfl) (by kernel_rfl) ?_
      refine GmT.p' 10 22 (.bool true) (by kernel_rfl) (by kernel_rfl) ?_
      refine GmT.done (by kernel_rfl) ?_
      have e := someS h1
      subst e
      exact Qn.thenJ fun a ha => ⟨true, rfl, ha.keep [1, 3, 22] (by kernel_rfl), hI⟩
    · rw [if_neg hb11] at h1
      have hb11 : ((y4.length : Int) == 0) = false := by simpa using hb11
      refine GmT.keep [1, 3, 15] (S' := [(1, .pointer (some ⟨b2, 0, none⟩)), (3, .slice A5 y4.length cp6), (15, .bool false)]) (by (try simp only [hb11]); kernel_rfl) ?_
      refine GmT.p' 4 16 (.pointer (some ⟨b2, 0, none⟩)) (by kernel_rfl) (by kernel_rfl) ?_
      refine GmT.p' 6 18 (.slice A5 y4.length cp6) (by kernel_rfl) (by kernel_rfl) ?_
      refine GmT.r (i := 5) 2 (by kernel_rfl) (by kernel_rfl) (Yl.load (d := 17) (T := 29) (v := .int .i64 a0.Kind) (by kernel_rfl) (ldB ty29 (l := c_ApiEvent a0) (o := 0) (v := .int .i64 a0.Kind) (ent_refl _) (by kernel_rfl))) hI ?_
      refine GmT.r (i := 8) 2 (by kernel_rfl) (by kernel_rfl) (Yl.load (d := 20) (T := 35) (v := .agg (c_ApiEvent a0).toArray) (by kernel_rfl) (ldBN ty35 (l := c_ApiEvent a0) (o := 0) (cs := c_ApiEvent a0) (ent_refl _) (len_ApiEvent _ hl1) (whole _ _ (len_ApiEvent _ hl1)))) hI ?_
      obtain ⟨y13, hc12, h1⟩ := bindS h1
      try dsimp only at h1
      refine GmT.o (i := 7) (by kernel_rfl) (Does.call (d := some 19) (n := 37) (vs := [.int .i64 a0.Kind, .slice A5 y4.length cp6]) (by kernel_rfl) en37 (c37 w0 w _ _ hI (hT.mono hle8) a0.Kind A5 cp6 y4 hr9 _ hc12) ?_)
      rintro e w ⟨rfl, hl14, hI⟩
      refine ⟨_, rfl, ?_⟩
      refine ⟨fun _ _ => hI, ?_⟩
      refine GmT.r (i := 9) 2 (by kernel_rfl) (by kernel_rfl) (Yl.neqS (d := 21) (T := 35) (xs := ([.int .i64 y13.Kind, .int .i64 y13.ID, .string y13.Name, .int .i64 y13.Time, .int .i64 y13.Len] : List Value) ++ (cA (Value.int .u8) y13.Sum)) (ys := ([.int .i64 a0.Kind, .int .i64 a0.ID, .string a0.Name, .int .i64 a0.Time, .int .i64 a0.Len] : List Value) ++ (cA (Value.int .u8) a0.Sum)) (r := eq_ApiEvent y13 a0) (by kernel_rfl) Go.Proofs.Tryd.underlying35 (by kernel_rfl) (by kernel_rfl) (.cons rfl (part1 (v := .int .i64 y13.Kind) ty29 (by kernel_rfl)) (part1 (v := .int .i64 a0.Kind) ty29 (by kernel_rfl)) (eqI Go.Proofs.Tryd.underlying29) (.cons rfl (part1 (v := .int .i64 y13.ID) ty3 (by kernel_rfl)) (part1 (v := .int .i64 a0.ID) ty3 (by kernel_rfl)) (eqI Go.Proofs.Tryd.underlying3) (.cons rfl (part1 (v := .string y13.Name) ty9 (by kernel_rfl)) (part1 (v := .string a0.Name) ty9 (by kernel_rfl)) (eqS Go.Proofs.Tryd.underlying9) (.cons rfl (part1 (v := .int .i64 y13.Time) ty3 (by kernel_rfl)) (part1 (v := .int .i64 a0.Time) ty3 (by kernel_rfl)) (eqI Go.Proofs.Tryd.underlying3) (.cons rfl (part1 (v := .int .i64 y13.Len) ty3 (by kernel_rfl)) (part1 (v := .int .i64 a0.Len) ty3 (by kernel_rfl)) (eqI Go.Proofs.Tryd.underlying3) (.cons rfl (partN ty33 (tail_take _ _ _ _ _ (by kernel_rfl) hl14)) (partN ty33 (tail_take _ _ _ _ _ (by kernel_rfl) hl1)) (eqAr Go.Proofs.Tryd.underlying33 Go.Proofs.Tryd.underlying5 ty5 hl14 hl1) .nil))))))) hI ?_
      refine GmT.p' 10 22 (.bool (!(eq_ApiEvent y13 a0))) (by kernel_rfl) (by kernel_rfl) ?_
      refine GmT.done (by kernel_rfl) ?_
      have e := someS h1
      subst e
      exact Qn.thenJ fun a ha => ⟨!(eq_ApiEvent y13 a0), rfl, ha.keep [1, 3, 22] (by kernel_rfl), hI⟩
  ·
    rintro a w ⟨x10, rfl, ha, hI⟩
    try dsimp only at h0
    refine CodT.of ?_ ha
    by_cases hb15 : x10 = true
    · rw [if_pos hb15] at h0
      refine CodT.yes' (b := x10) (by kernel_rfl) hb15 ?_
      refine CodT.seq ?_
      refine CodT.regionL [0] (by kernel_rfl) ?_
      refine OpsT.pures (r := []) [0] [2] (S' := [(2, .bool false)]) (by kernel_rfl) ?_
      refine OpsT.done ?_
      refine Qn.then ?_
      refine CodT.ret ?_
      refine Qn.ret_then ?_
      have hI := hI.drop
      have e := someS h0
      subst e
      refine Qn.keep [2] (S' := [(2, .bool false)]) (by kernel_rfl) ?_
      exact post_ret (v := .bool false) (fun a ha => RunRes.run (vs := [.bool false]) (.tmp (t := 2) (by kernel_rfl) .nil) ha (by kernel_rfl)) ⟨rfl, hI.weaken hle8⟩
    · rw [if_neg hb15] at h0
      refine CodT.no' (b := x10) (by kernel_rfl) (by simpa using hb15) ?_
      refine CodT.skip ?_
      refine Qn.then ?_
      refine CodT.seq ?_
      refine CodT.regionL [0] (by kernel_rfl) ?_
      refine OpsT.pures (r := []) [0] [1, 3, 4] (S' := [(1, .pointer (some ⟨b2, 0, none⟩)), (3, .slice A5 y4.length cp6), (4, .int .i64 0)]) (by kernel_rfl) ?_
      refine OpsT.done ?_
      refine Qn.then ?_
      obtain ⟨r1, h1, h0⟩ := bindS h0
      refine CodT.meet (fun a w => ∃ (x16 : Int), x16 = r1 ∧ Fr 63 [(1, .pointer (some ⟨b2, 0, none⟩)), (3, .slice A5 y4.length cp6), (4, .int .i64 x16)] a ∧ Inv w0 Z7 w (star (pt b2 (.cells (c_ApiEvent a0).toArray 35 (0, 0))) A)) ?_ ?_
      ·
        refine CodT.seq ?_
        refine CodT.regionL [0, 1, 2] (by kernel_rfl) ?_
        refine OpsT.pures (r := [1, 2]) [0] [1, 3, 4, 23] (S' := [(1, .pointer (some ⟨b2, 0, none⟩)), (3, .slice A5 y4.length cp6), (4, .int .i64 0), (23, .pointer (some ⟨b2, 0, none⟩))]) (by kernel_rfl) ?_
        refine OpsT.cons (Does.yi (Yl.load (d := 24) (T := 29) (v := .int .i64 a0.Kind) (by kernel_rfl) (ldB ty29 (l := c_ApiEvent a0) (o := 0) (v := .int .i64 a0.Kind) (ent_refl _) (by kernel_rfl))) hI ?_)
        refine OpsT.pures (r := []) [2] [1, 3, 4, 25] (S' := [(1, .pointer (some ⟨b2, 0, none⟩)), (3, .slice A5 y4.length cp6), (4, .int .i64 0), (25, .bool (a0.Kind == 1))]) (by kernel_rfl) ?_
        refine OpsT.done ?_
        refine Qn.then ?_
        by_cases hb17 : (a0.Kind == 1) = true
        · rw [if_pos hb17] at h1
          refine CodT.yes' (b := a0.Kind == 1) (by kernel_rfl) hb17 ?_
          refine CodT.regionL [0] (by kernel_rfl) ?_
          refine OpsT.pures (r := []) [0] [1, 3, 4] (S' := [(1, .pointer (some ⟨b2, 0, none⟩)), (3, .slice A5 y4.length cp6), (4, .int .i64 1)]) (by kernel_rfl) ?_
          refine OpsT.done ?_
          have e := someS h1
          subst e
          exact Qn.thenJ fun a ha => ⟨1, rfl, ha.keep [1, 3, 4] (by kernel_rfl), hI⟩
        · rw [if_neg hb17] at h1
          refine CodT.no' (b := a0.Kind == 1) (by kernel_rfl) (by simpa using hb17) ?_
          refine CodT.skip ?_
          have e := someS h1
          subst e
          exact Qn.thenJ fun a ha => ⟨0, rfl, ha.keep [1, 3, 4] (by kernel_rfl), hI⟩
      ·
        rintro a w ⟨x16, rfl, ha, hI⟩
        try dsimp only at h0
        refine CodT.of ?_ ha
        refine CodT.seq ?_
        refine CodT.regionL [0] (by kernel_rfl) ?_
        refine OpsT.pures (r := []) [0] [1, 3, 4, 5] (S' := [(1, .pointer (some ⟨b2, 0, none⟩)), (3, .slice A5 y4.length cp6), (4, .int .i64 x16), (5, .bool true)]) (by kernel_rfl) ?_
        refine OpsT.done ?_
        refine Qn.then ?_
        refine CodT.seq ?_
        refine CodT.seq ?_
        refine CodT.regionL [0, 1, 2] (by kernel_rfl) ?_
        refine OpsT.pures (r := []) [0, 1, 2] [1, 4, 5, 26, 27, 28] (S' := [(1, .pointer (some ⟨b2, 0, none⟩)), (4, .int .i64 x16), (5, .bool true), (26, .slice A5 y4.length cp6), (27, .int .i64 (y4.length : Int)), (28, .int .i64 0)]) (by kernel_rfl) ?_
        refine OpsT.done ?_
        refine Qn.then ?_
        obtain ⟨r1, h1, h0⟩ := bindS h0
        refine CodT.meet1 (fun a w => ∃ (x18 : Bool), x18 = r1 ∧ Fr 63 [(1, .pointer (some ⟨b2, 0, none⟩)), (4, .int .i64 x16), (5, .bool x18)] a ∧ Inv w0 Z7 w (star (pt b2 (.cells (c_ApiEvent a0).toArray 35 (0, 0))) A)) ?_ ?_
        ·
          refine CodT.block ?_
          refine (fun a ha => wp_loopN (fun k a w => ∃ (x19 : Bool) (x20 : Int), event_Valid.l0 y4 k x19 x20 = some r1 ∧ Fr 63 [(1, .pointer (some ⟨b2, 0, none⟩)), (4, .int .i64 x16), (5, .bool x19), (26, .slice A5 y4.length cp6), (27, .int .i64 (y4.length : Int)), (28, .int .i64 x20)] a ∧ Inv w0 Z7 w (star (pt b2 (.cells (c_ApiEvent a0).toArray 35 (0, 0))) A)) ?_ FU a w ⟨true, 0, h1, ha.keep [1, 4, 5, 26, 27, 28] (by kernel_rfl), hI⟩)
          clear h1 hI
          rintro k a w ⟨x19, x20, h1, ha, hI⟩
          rcases k with _ | k
          · cases h1
          simp only [event_Valid.l0] at h1
          refine CodT.of ?_ ha
          refine CodT.seq ?_
          refine CodT.regionL [0] (by kernel_rfl) ?_
          refine OpsT.pures (r := []) [0] [1, 4, 5, 26, 27, 28, 29] (S' := [(1, .pointer (some ⟨b2, 0, none⟩)), (4, .int .i64 x16), (5, .bool x19), (26, .slice A5 y4.length cp6), (27, .int .i64 (y4.length : Int)), (28, .int .i64 x20), (29, .bool (decide (x20 < (y4.length : Int))))]) (by kernel_rfl) ?_
          refine OpsT.done ?_
          refine Qn.then ?_
          refine CodT.seq ?_
          by_cases hb21 : (decide (x20 < (y4.length : Int))) = true
          · rw [if_pos hb21] at h1
            refine CodT.yes' (b := decide (x20 < (y4.length : Int))) (by kernel_rfl) hb21 ?_
            refine CodT.skip ?_
            refine Qn.then ?_
            obtain ⟨r2, h2, h1⟩ := bindS h1
            refine CodT.meet (fun a w => ∃ (x22 : Bool), x22 = r2 ∧ Fr 63 [(1, .pointer (some ⟨b2, 0, none⟩)), (4, .int .i64 x16), (5, .bool x22), (26, .slice A5 y4.length cp6), (27, .int .i64 (y4.length : Int)), (28, .int .i64 x20)] a ∧ Inv w0 Z7 w (star (pt b2 (.cells (c_ApiEvent a0).toArray 35 (0, 0))) A)) ?_ ?_
            ·
              refine CodT.block ?_
              refine CodT.seq ?_
              refine CodT.regionL [0, 1, 2] (by kernel_rfl) ?_
              obtain ⟨hg23, h2⟩ := guardS h2
              obtain ⟨g24, o28, hA25, hr26, hl27⟩ := RdS.get hr9 hg23.1 hg23.2
              refine OpsT.cons (Does.yi (Yl.indexSlice (d := 30) (T := 82) (cc := cp6) (k := .i64) (j := x20) (g := g24) (o := o28) (by kernel_rfl) Go.Proofs.Tryd.underlying82 ty86 hA25 hg23.1 hg23.2) hI ?_)
              refine OpsT.cons (Does.yi (Yl.load (d := 31) (T := 86) (v := dynV86 (gt y4 x20)) (by kernel_rfl) (ldR ty86 (v := dynV86 (gt y4 x20)) 0 (fun w hC => hr26 w0 w _ hC) (by kernel_rfl))) hI ?_)
              refine OpsT.pures (r := []) [2] [1, 4, 5, 7, 26, 27, 28] (S' := [(1, .pointer (some ⟨b2, 0, none⟩)), (4, .int .i64 x16), (5, .bool x19), (7, dynV86 (gt y4 x20)), (26, .slice A5 y4.length cp6), (27, .int .i64 (y4.length : Int)), (28, .int .i64 x20)]) (by kernel_rfl) ?_
              refine OpsT.done ?_
              refine Qn.then ?_
              refine CodT.seq ?_
              refine CodT.regionL [0, 1, 2, 3, 4, 5, 6] (by kernel_rfl) ?_
              refine OpsT.pures (r := [1, 2, 3, 4, 5, 6]) [0] [1, 4, 5, 26, 27, 28, 33] (S' := [(1, .pointer (some ⟨b2, 0, none⟩)), (4, .int .i64 x16), (5, .bool x19), (26, .slice A5 y4.length cp6), (27, .int .i64 (y4.length : Int)), (28, .int .i64 x20), (33, dynV86 (gt y4 x20))]) (by kernel_rfl) ?_
              rcases hd29 : gt y4 x20 with _ | z30 | z31 | z32
              ·
                simp only [hd29] at h2
                refine OpsT.keep [1, 4, 5, 26, 27, 28, 33] (S' := [(1, .pointer (some ⟨b2, 0, none⟩)), (4, .int .i64 x16), (5, .bool x19), (26, .slice A5 y4.length cp6), (27, .int .i64 (y4.length : Int)), (28, .int .i64 x20), (33, .nilIface)]) (by (try simp only [hd29]); kernel_rfl) ?_
                refine OpsT.pures (r := []) [1, 2, 3, 4, 5, 6] [1, 4, 5, 8, 9, 26, 27, 28] (S' := [(1, .pointer (some ⟨b2, 0, none⟩)), (4, .int .i64 x16), (5, .bool x19), (8, .string (⟨#[]⟩ : ByteArray)), (9, .bool false), (26, .slice A5 y4.length cp6), (27, .int .i64 (y4.length : Int)), (28, .int .i64 x20)]) (by kernel_rfl) ?_
                refine OpsT.done ?_
                refine Qn.then ?_
                refine CodT.seq ?_
                refine CodT.regionL [0] (by kernel_rfl) ?_
                refine OpsT.pures (r := []) [0] [1, 4, 5, 8, 26, 27, 28, 37] (S' := [(1, .pointer (some ⟨b2, 0, none⟩)), (4, .int .i64 x16), (5, .bool x19), (8, .string (⟨#[]⟩ : ByteArray)), (26, .slice A5 y4.length cp6), (27, .int .i64 (y4.length : Int)), (28, .int .i64 x20), (37, .bool false)]) (by kernel_rfl) ?_
                refine OpsT.done ?_
                refine Qn.then ?_
                refine CodT.no (by kernel_rfl) ?_
                refine CodT.skip ?_
                refine Qn.block_normal ?_
                have e := someS h2
                subst e
                exact Qn.thenJ fun a ha => ⟨x19, rfl, ha.keep [1, 4, 5, 26, 27, 28] (by kernel_rfl), hI⟩
              ·
                simp only [hd29] at h2
                refine OpsT.keep [1, 4, 5, 26, 27, 28, 33] (S' := [(1, .pointer (some ⟨b2, 0, none⟩)), (4, .int .i64 x16), (5, .bool x19), (26, .slice A5 y4.length cp6), (27, .int .i64 (y4.length : Int)), (28, .int .i64 x20), (33, .iface 87 (.string z30))]) (by (try simp only [hd29]); kernel_rfl) ?_
                refine OpsT.pures (r := []) [1, 2, 3, 4, 5, 6] [1, 4, 5, 8, 9, 26, 27, 28] (S' := [(1, .pointer (some ⟨b2, 0, none⟩)), (4, .int .i64 x16), (5, .bool x19), (8, .string z30), (9, .bool true), (26, .slice A5 y4.length cp6), (27, .int .i64 (y4.length : Int)), (28, .int .i64 x20)]) (by kernel_rfl) ?_
                refine OpsT.done ?_
                refine Qn.then ?_
                refine CodT.seq ?_
                refine CodT.regionL [0] (by kernel_rfl) ?_
                refine OpsT.pures (r := []) [0] [1, 4, 5, 8, 26, 27, 28, 37] (S' := [(1, .pointer (some ⟨b2, 0, none⟩)), (4, .int .i64 x16), (5, .bool x19), (8, .string z30), (26, .slice A5 y4.length cp6), (27, .int .i64 (y4.length : Int)), (28, .int .i64 x20), (37, .bool true)]) (by kernel_rfl) ?_
                refine OpsT.done ?_
                refine Qn.then ?_
                refine CodT.yes (by kernel_rfl) ?_
                refine CodT.regionL [0, 1, 2] (by kernel_rfl) ?_
                refine OpsT.pures (r := [1, 2]) [0] [1, 4, 26, 27, 28, 38] (S' := [(1, .pointer (some ⟨b2, 0, none⟩)), (4, .int .i64 x16), (26, .slice A5 y4.length cp6), (27, .int .i64 (y4.length : Int)), (28, .int .i64 x20), (38, .string z30)]) (by kernel_rfl) ?_
                obtain ⟨y34, hc33, h2⟩ := bindS h2
                try dsimp only at h2
                refine OpsT.cons (Does.call (d := some 39) (n := 30) (vs := [.string z30]) (by kernel_rfl) en30 (c30 w0 w _ _ hI (hT.mono hle8) z30 _ hc33) ?_)
                rintro e w ⟨rfl, hI⟩
                refine ⟨_, rfl, ?_⟩
                refine OpsT.pures (r := []) [2] [1, 4, 5, 26, 27, 28] (S' := [(1, .pointer (some ⟨b2, 0, none⟩)), (4, .int .i64 x16), (5, .bool y34), (26, .slice A5 y4.length cp6), (27, .int .i64 (y4.length : Int)), (28, .int .i64 x20)]) (by kernel_rfl) ?_
                refine OpsT.done ?_
                refine Qn.block_normal ?_
                have e := someS h2
                subst e
                exact Qn.thenJ fun a ha => ⟨y34, rfl, ha.keep [1, 4, 5, 26, 27, 28] (by kernel_rfl), hI⟩
              ·
                simp only [hd29] at h2
                refine OpsT.keep [1, 4, 5, 26, 27, 28, 33] (S' := [(1, .pointer (some ⟨b2, 0, none⟩)), (4, .int .i64 x16), (5, .bool x19), (26, .slice A5 y4.length cp6), (27, .int .i64 (y4.length : Int)), (28, .int .i64 x20), (33, .iface 119 (.int .i64 z31))]) (by (try simp only [hd29]); kernel_rfl) ?_
                refine OpsT.pures (r := []) [1, 2, 3, 4, 5, 6] [1, 4, 5, 8, 9, 26, 27, 28] (S' := [(1, .pointer (some ⟨b2, 0, none⟩)), (4, .int .i64 x16), (5, .bool x19), (8, .string (⟨#[]⟩ : ByteArray)), (9, .bool false), (26, .slice A5 y4.length cp6), (27, .int .i64 (y4.length : Int)), (28, .int .i64 x20)]) (by kernel_rfl) ?_
                refine OpsT.done ?_
                refine Qn.then ?_
                refine CodT.seq ?_
                refine CodT.regionL [0] (by kernel_rfl) ?_
                refine OpsT.pures (r := []) [0] [1, 4, 5, 8, 26, 27, 28, 37] (S' := [(1, .pointer (some ⟨b2, 0, none⟩)), (4, .int .i64 x16), (5, .bool x19), (8, .string (⟨#[]⟩ : ByteArray)), (26, .slice A5 y4.length cp6), (27, .int .i64 (y4.length : Int)), (28, .int .i64 x20), (37, .bool false)]) (by kernel_rfl) ?_
                refine OpsT.done ?_
                refine Qn.then ?_
                refine CodT.no (by kernel_rfl) ?_
                refine CodT.skip ?_
                refine Qn.block_normal ?_
                have e := someS h2
                subst e
                exact Qn.thenJ fun a ha => ⟨x19, rfl, ha.keep [1, 4, 5, 26, 27, 28] (by kernel_rfl), hI⟩
              ·
                simp only [hd29] at h2
                obtain ⟨hg35, h2⟩ := guardS h2
                refine OpsT.keep [1, 4, 5, 26, 27, 28, 33] (S' := [(1, .pointer (some ⟨b2, 0, none⟩)), (4, .int .i64 x16), (5, .bool x19), (26, .slice A5 y4.length cp6), (27, .int .i64 (y4.length : Int)), (28, .int .i64 x20), (33, .iface 120 (.agg (cA (Value.int .u8) z32).toArray))]) (by (try simp only [hd29]); kernel_rfl) ?_
                refine OpsT.pures (r := []) [1, 2, 3, 4, 5, 6] [1, 4, 5, 8, 9, 26, 27, 28] (S' := [(1, .pointer (some ⟨b2, 0, none⟩)), (4, .int .i64 x16), (5, .bool x19), (8, .string (⟨#[]⟩ : ByteArray)), (9, .bool false), (26, .slice A5 y4.length cp6), (27, .int .i64 (y4.length : Int)), (28, .int .i64 x20)]) (by kernel_rfl) ?_
                refine OpsT.done ?_
                refine Qn.then ?_
                refine CodT.seq ?_
                refine CodT.regionL [0] (by kernel_rfl) ?_
                refine OpsT.pures (r := []) [0] [1, 4, 5, 8, 26, 27, 28, 37] (S' := [(1, .pointer (some ⟨b2, 0, none⟩)), (4, .int .i64 x16), (5, .bool x19), (8, .string (⟨#[]⟩ : ByteArray)), (26, .slice A5 y4.length cp6), (27, .int .i64 (y4.length : Int)), (28, .int .i64 x20), (37, .bool false)]) (by kernel_rfl) ?_
                refine OpsT.done ?_
                refine Qn.then ?_
                refine CodT.no (by kernel_rfl) ?_
                refine CodT.skip ?_
                refine Qn.block_normal ?_
                have e := someS h2
                subst e
                exact Qn.thenJ fun a ha => ⟨x19, rfl, ha.keep [1, 4, 5, 26, 27, 28] (by kernel_rfl), hI⟩
            ·
              rintro a w ⟨x22, rfl, ha, hI⟩
              try dsimp only at h1
              refine CodT.of ?_ ha
              refine CodT.regionL [0, 1] (by kernel_rfl) ?_
              refine OpsT.pures (r := []) [0, 1] [1, 4, 5, 26, 27, 28] (S' := [(1, .pointer (some ⟨b2, 0, none⟩)), (4, .int .i64 x16), (5, .bool x22), (26, .slice A5 y4.length cp6), (27, .int .i64 (y4.length : Int)), (28, .int .i64 (wi64 (x20 + 1)))]) (by kernel_rfl) ?_
              refine OpsT.done ?_
              exact Qn.thenJ fun a ha => ⟨k, Nat.lt_succ_self k, x22, wi64 (x20 + 1), h1, ha.keep [1, 4, 5, 26, 27, 28] (by kernel_rfl), hI⟩
          · rw [if_neg hb21] at h1
            refine CodT.no' (b := decide (x20 < (y4.length : Int))) (by kernel_rfl) (by simpa using hb21) ?_
            refine CodT.exit ?_
            refine Qn.exit_then ?_
            refine Qn.exit_then ?_
            refine Qn.block ?_
            have e := someS h1
            subst e
            exact Qn.thenJ fun a ha => ⟨x19, rfl, ha.keep [1, 4, 5] (by kernel_rfl), hI⟩
        ·
          rintro a w ⟨x18, rfl, ha, hI⟩
          try dsimp only at h0
          refine Qn.of ?_ ha
          refine Qn.then ?_
          obtain ⟨r1, h1, h0⟩ := bindS h0
          refine CodT.meet (fun a w => ∃ (x36 : Bool), x36 = r1 ∧ Fr 63 [(2, .bool x36)] a ∧ Inv w0 Z7 w A) ?_ ?_
          ·
            refine CodT.regionL [0, 1, 2, 3, 4, 5, 6, 7, 8, 9, 10, 11, 12, 13, 14, 15, 16, 17, 18, 19, 20, 21, 22] (by kernel_rfl) ?_
            refine OpsT.pures (r := [2, 3, 4, 5, 6, 7, 8, 9, 10, 11, 12, 13, 14, 15, 16, 17, 18, 19, 20, 21, 22]) [0, 1] [1, 4, 42] (S' := [(1, .pointer (some ⟨b2, 0, none⟩)), (4, .int .i64 x16), (42, .bool x18)]) (by kernel_rfl) ?_
            by_cases hb37 : x18 = true
            · rw [if_pos hb37] at h1
              refine OpsT.keep [1, 4, 42] (S' := [(1, .pointer (some ⟨b2, 0, none⟩)), (4, .int .i64 x16), (42, .bool true)]) (by (try simp only [hb37]); kernel_rfl) ?_
              refine OpsT.pures (r := [3, 4, 5, 6, 7, 8, 9, 10, 11, 12, 13, 14, 15, 16, 17, 18, 19, 20, 21, 22]) [2] [1, 4, 42, 43] (S' := [(1, .pointer (some ⟨b2, 0, none⟩)), (4, .int .i64 x16), (42, .bool true), (43, .pointer (some ⟨b2, 0, none⟩))]) (by kernel_rfl) ?_
              refine OpsT.cons (Does.yi (Yl.load (d := 44) (T := 29) (v := .int .i64 a0.Kind) (by kernel_rfl) (ldB ty29 (l := c_ApiEvent a0) (o := 0) (v := .int .i64 a0.Kind) (ent_refl _) (by kernel_rfl))) hI ?_)
              refine OpsT.pures (r := [6, 7, 8, 9, 10, 11, 12, 13, 14, 15, 16, 17, 18, 19, 20, 21, 22]) [4, 5] [1, 4, 42, 46] (S' := [(1, .pointer (some ⟨b2, 0, none⟩)), (4, .int .i64 x16), (42, .bool true), (46, .bool (a0.Kind == 7))]) (by kernel_rfl) ?_
              by_cases hb38 : (a0.Kind == 7) = true
              · rw [if_pos hb38] at h1
                refine OpsT.keep [1, 4, 42, 46] (S' := [(1, .pointer (some ⟨b2, 0, none⟩)), (4, .int .i64 x16), (42, .bool true), (46, .bool true)]) (by (try simp only [hb38]); kernel_rfl) ?_
                refine OpsT.pures (r := [13, 14, 15, 16, 17, 18, 19, 20, 21, 22]) [6, 7, 8, 9, 10, 11, 12] [1, 4, 52, 53] (S' := [(1, .pointer (some ⟨b2, 0, none⟩)), (4, .int .i64 x16), (52, .bool true), (53, .pointer (some ⟨b2, 3, none⟩))]) (by kernel_rfl) ?_
                refine OpsT.cons (Does.yi (Yl.load (d := 54) (T := 3) (v := .int .i64 a0.Time) (by kernel_rfl) (ldB ty3 (l := c_ApiEvent a0) (o := 3) (v := .int .i64 a0.Time) (ent_refl _) (by kernel_rfl))) hI ?_)
                obtain ⟨y40, hc39, h1⟩ := bindS h1
                try dsimp only at h1
                refine OpsT.cons (Does.call (d := some 55) (n := 38) (vs := [.int .i64 a0.Time, .int .i64 0, .int .i64 1099511627776]) (by kernel_rfl) en38 (c38 w0 w _ _ hI (hT.mono hle8) a0.Time 0 1099511627776 _ hc39) ?_)
                rintro e w ⟨rfl, hI⟩
                refine ⟨_, rfl, ?_⟩
                refine OpsT.pures (r := [17, 18, 19, 20, 21, 22]) [15, 16] [1, 4, 57] (S' := [(1, .pointer (some ⟨b2, 0, none⟩)), (4, .int .i64 x16), (57, .bool y40)]) (by kernel_rfl) ?_
                by_cases hb41 : y40 = true
                · rw [if_pos hb41] at h1
                  refine OpsT.keep [1, 4, 57] (S' := [(1, .pointer (some ⟨b2, 0, none⟩)), (4, .int .i64 x16), (57, .bool true)]) (by (try simp only [hb41]); kernel_rfl) ?_
                  refine OpsT.pures (r := [18, 19, 20, 21, 22]) [17] [4, 57, 58] (S' := [(4, .int .i64 x16), (57, .bool true), (58, .pointer (some ⟨b2, 4, none⟩))]) (by kernel_rfl) ?_
                  refine OpsT.cons (Does.yi (Yl.load (d := 59) (T := 3) (v := .int .i64 a0.Len) (by kernel_rfl) (ldB ty3 (l := c_ApiEvent a0) (o := 4) (v := .int .i64 a0.Len) (ent_refl _) (by kernel_rfl))) hI ?_)
                  refine OpsT.pures (r := [20, 21, 22]) [19] [57, 59, 60] (S' := [(57, .bool true), (59, .int .i64 a0.Len), (60, .int .i64 x16)]) (by kernel_rfl) ?_
                  obtain ⟨y43, hc42, h1⟩ := bindS h1
                  try dsimp only at h1
                  refine OpsT.cons (Does.call (d := some 61) (n := 38) (vs := [.int .i64 a0.Len, .int .i64 x16, .int .i64 600]) (by kernel_rfl) en38 (c38 w0 w _ _ hI (hT.mono hle8) a0.Len x16 600 _ hc42) ?_)
                  rintro e w ⟨rfl, hI⟩
                  refine ⟨_, rfl, ?_⟩
                  refine OpsT.pures (r := []) [21, 22] [2] (S' := [(2, .bool y43)]) (by kernel_rfl) ?_
                  refine OpsT.done ?_
                  have hI := hI.drop
                  have e := someS h1
                  subst e
                  exact Qn.thenJ fun a ha => ⟨y43, rfl, ha.keep [2] (by kernel_rfl), hI⟩
                · rw [if_neg hb41] at h1
                  have hb41 : y40 = false := by simpa using hb41
                  refine OpsT.keep [1, 4, 57] (S' := [(1, .pointer (some ⟨b2, 0, none⟩)), (4, .int .i64 x16), (57, .bool false)]) (by (try simp only [hb41]); kernel_rfl) ?_
                  refine OpsT.pures (r := []) [17, 18, 19, 20, 21, 22] [2] (S' := [(2, .bool false)]) (by kernel_rfl) ?_
                  refine OpsT.done ?_
                  have hI := hI.drop
                  have e := someS h1
                  subst e
                  exact Qn.thenJ fun a ha => ⟨false, rfl, ha.keep [2] (by kernel_rfl), hI⟩
              · rw [if_neg hb38] at h1
                have hb38 : (a0.Kind == 7) = false := by simpa using hb38
                refine OpsT.keep [1, 4, 42, 46] (S' := [(1, .pointer (some ⟨b2, 0, none⟩)), (4, .int .i64 x16), (42, .bool true), (46, .bool false)]) (by (try simp only [hb38]); kernel_rfl) ?_
                refine OpsT.pures (r := [7, 8, 9, 10, 11, 12, 13, 14, 15, 16, 17, 18, 19, 20, 21, 22]) [6] [1, 4, 42, 46, 47] (S' := [(1, .pointer (some ⟨b2, 0, none⟩)), (4, .int .i64 x16), (42, .bool true), (46, .bool false), (47, .pointer (some ⟨b2, 1, none⟩))]) (by kernel_rfl) ?_
                refine OpsT.cons (Does.yi (Yl.load (d := 48) (T := 3) (v := .int .i64 a0.ID) (by kernel_rfl) (ldB ty3 (l := c_ApiEvent a0) (o := 1) (v := .int .i64 a0.ID) (ent_refl _) (by kernel_rfl))) hI ?_)
                obtain ⟨y45, hc44, h1⟩ := bindS h1
                try dsimp only at h1
                refine OpsT.cons (Does.call (d := some 49) (n := 38) (vs := [.int .i64 a0.ID, .int .i64 1, .int .i64 1099511627776]) (by kernel_rfl) en38 (c38 w0 w _ _ hI (hT.mono hle8) a0.ID 1 1099511627776 _ hc44) ?_)
                rintro e w ⟨rfl, hI⟩
                refine ⟨_, rfl, ?_⟩
                refine OpsT.pures (r := [12, 13, 14, 15, 16, 17, 18, 19, 20, 21, 22]) [9, 10, 11] [1, 4, 52] (S' := [(1, .pointer (some ⟨b2, 0, none⟩)), (4, .int .i64 x16), (52, .bool y45)]) (by kernel_rfl) ?_
                by_cases hb46 : y45 = true
                · rw [if_pos hb46] at h1
                  refine OpsT.keep [1, 4, 52] (S' := [(1, .pointer (some ⟨b2, 0, none⟩)), (4, .int .i64 x16), (52, .bool true)]) (by (try simp only [hb46]); kernel_rfl) ?_
                  refine OpsT.pures (r := [13, 14, 15, 16, 17, 18, 19, 20, 21, 22]) [12] [1, 4, 52, 53] (S' := [(1, .pointer (some ⟨b2, 0, none⟩)), (4, .int .i64 x16), (52, .bool true), (53, .pointer (some ⟨b2, 3, none⟩))]) (by kernel_rfl) ?_
                  refine OpsT.cons (Does.yi (Yl.load (d := 54) (T := 3) (v := .int .i64 a0.Time) (by kernel_rfl) (ldB ty3 (l := c_ApiEvent a0) (o := 3) (v := .int .i64 a0.Time) (ent_refl _) (by kernel_rfl))) hI ?_)
                  obtain ⟨y48, hc47, h1⟩ := bindS h1
                  try dsimp only at h1
                  refine OpsT.cons (Does.call (d := some 55) (n := 38) (vs := [.int .i64 a0.Time, .int .i64 0, .int .i64 1099511627776]) (by kernel_rfl) en38 (c38 w0 w _ _ hI (hT.mono hle8) a0.Time 0 1099511627776 _ hc47) ?_)
                  rintro e w ⟨rfl, hI⟩
                  refine ⟨_, rfl, ?_⟩
                  refine OpsT.pures (r := [17, 18, 19, 20, 21, 22]) [15, 16] [1, 4, 57] (S' := [(1, .pointer (some ⟨b2, 0, none⟩)), (4, .int .i64 x16), (57, .bool y48)]) (by kernel_rfl) ?_
                  by_cases hb49 : y48 = true
                  · rw [if_pos hb49] at h1
                    refine OpsT.keep [1, 4, 57] (S' := [(1, .pointer (some ⟨b2, 0, none⟩)), (4, .int .i64 x16), (57, .bool true)]) (by (try simp only [hb49]); kernel_rfl) ?_
                    refine OpsT.pures (r := [18, 19, 20, 21, 22]) [17] [4, 57, 58] (S' := [(4, .int .i64 x16), (57, .bool true), (58, .pointer (some ⟨b2, 4, none⟩))]) (by kernel_rfl) ?_
                    refine OpsT.cons (Does.yi (Yl.load (d := 59) (T := 3) (v := .int .i64 a0.Len) (by kernel_rfl) (ldB ty3 (l := c_ApiEvent a0) (o := 4) (v := .int .i64 a0.Len) (ent_refl _) (by kernel_rfl))) hI ?_)
                    refine OpsT.pures (r := [20, 21, 22]) [19] [57, 59, 60] (S' := [(57, .bool true), (59, .int .i64 a0.Len), (60, .int .i64 x16)]) (by kernel_rfl) ?_
                    obtain ⟨y51, hc50, h1⟩ := bindS h1
                    try dsimp only at h1
                    refine OpsT.cons (Does.call (d := some 61) (n := 38) (vs := [.int .i64 a0.Len, .int .i64 x16, .int .i64 600]) (by kernel_rfl) en38 (c38 w0 w _ _ hI (hT.mono hle8) a0.Len x16 600 _ hc50) ?_)
                    rintro e w ⟨rfl, hI⟩
                    refine ⟨_, rfl, ?_⟩
                    refine OpsT.pures (r := []) [21, 22] [2] (S' := [(2, .bool y51)]) (by kernel_rfl) ?_
                    refine OpsT.done ?_
                    have hI := hI.drop
                    have e := someS h1
                    subst e
                    exact Qn.thenJ fun a ha => ⟨y51, rfl, ha.keep [2] (by kernel_rfl), hI⟩
                  · rw [if_neg hb49] at h1
                    have hb49 : y48 = false := by simpa using hb49
                    refine OpsT.keep [1, 4, 57] (S' := [(1, .pointer (some ⟨b2, 0, none⟩)), (4, .int .i64 x16), (57, .bool false)]) (by (try simp only [hb49]); kernel_rfl) ?_
                    refine OpsT.pures (r := []) [17, 18, 19, 20, 21, 22] [2] (S' := [(2, .bool false)]) (by kernel_rfl) ?_
                    refine OpsT.done ?_
                    have hI := hI.drop
                    have e := someS h1
                    subst e
                    exact Qn.thenJ fun a ha => ⟨false, rfl, ha.keep [2] (by kernel_rfl), hI⟩
                · rw [if_neg hb46] at h1
                  have hb46 : y45 = false := by simpa using hb46
                  refine OpsT.keep [1, 4, 52] (S' := [(1, .pointer (some ⟨b2, 0, none⟩)), (4, .int .i64 x16), (52, .bool false)]) (by (try simp only [hb46]); kernel_rfl) ?_
                  refine OpsT.pures (r := []) [12, 13, 14, 15, 16, 17, 18, 19, 20, 21, 22] [2] (S' := [(2, .bool false)]) (by kernel_rfl) ?_
                  refine OpsT.done ?_
                  have hI := hI.drop
                  have e := someS h1
                  subst e
                  exact Qn.thenJ fun a ha => ⟨false, rfl, ha.keep [2] (by kernel_rfl), hI⟩
            · rw [if_neg hb37] at h1
              have hb37 : x18 = false := by simpa using hb37
              refine OpsT.keep [1, 4, 42] (S' := [(1, .pointer (some ⟨b2, 0, none⟩)), (4, .int .i64 x16), (42, .bool false)]) (by (try simp only [hb37]); kernel_rfl) ?_
              refine OpsT.pures (r := []) [2, 3, 4, 5, 6, 7, 8, 9, 10, 11, 12, 13, 14, 15, 16, 17, 18, 19, 20, 21, 22] [2] (S' := [(2, .bool false)]) (by kernel_rfl) ?_
              refine OpsT.done ?_
              have hI := hI.drop
              have e := someS h1
              subst e
              exact Qn.thenJ fun a ha => ⟨false, rfl, ha.keep [2] (by kernel_rfl), hI⟩
          ·
            rintro a w ⟨x36, rfl, ha, hI⟩
            try dsimp only at h0
            refine CodT.of ?_ ha
            refine CodT.ret ?_
            have e := someS h0
            subst e
            refine Qn.keep [2] (S' := [(2, .bool x36)]) (by kernel_rfl) ?_
            exact post_ret (v := .bool x36) (fun a ha => RunRes.run (vs := [.bool x36]) (.tmp (t := 2) (by kernel_rfl) .nil) ha (by kernel_rfl)) ⟨rfl, hI.weaken hle8⟩
end Go.Cen
