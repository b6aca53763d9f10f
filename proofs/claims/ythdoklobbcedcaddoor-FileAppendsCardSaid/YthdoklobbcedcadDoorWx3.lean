/- That the machine computes these: walks, printed by a program of ours. -/
import Derived.Test.YthdoklobbcedcadDoorPx
import Derived.Test.YthdoklobbcedcadDoorWx2
set_option linter.unusedVariables false
set_option linter.unusedSimpArgs false
namespace Go.Cen
set_option maxRecDepth 100000 in
set_option maxHeartbeats 4000000 in
/-- cenotaph/file.Meta -/
theorem c19 (w0 w : World) (Z : Hp) (A : HP) (hI : Inv w0 Z w A) (hT : Tabs Z) (a0_ID : Int) (a0_Name : ByteArray) (a0_Data : ByteArray) (a0_Sealed : Bool) (a0_Until : Int) (A_a0_Holds : Option Addr) (c_a0_Holds : Nat) (a0_Holds : (List ByteArray)) (hr_a0_Holds : RdS Z cS 1 A_a0_Holds c_a0_Holds a0_Holds) (r : (Int × ByteArray × ByteArray × Bool × Int × (List ByteArray))) (h0 : file_Meta a0_ID a0_Name a0_Data a0_Sealed a0_Until a0_Holds = some r) :
    Calls prog 19 #[.agg ((([.int .i64 a0_ID, .string a0_Name, .string a0_Data, .bool a0_Sealed, .int .i64 a0_Until, .slice A_a0_Holds a0_Holds.length c_a0_Holds] : List Value))).toArray] w (fun e w' => ∃ (A1 : Option Addr) (c1 : Nat) (Z' : Hp), Z.le Z' ∧ e = .returned (.agg ((([.int .i64 r.1, .string r.2.1, .string r.2.2.1, .bool r.2.2.2.1, .int .i64 r.2.2.2.2.1, .slice A1 r.2.2.2.2.2.length c1] : List Value))).toArray) ∧ RdS Z' cS 1 A1 c1 r.2.2.2.2.2 ∧ Inv w0 Z' w' A) := by
  have e4 := calls_intro (R := (fun e w' => ∃ (A1 : Option Addr) (c1 : Nat) (Z' : Hp), Z.le Z' ∧ e = .returned (.agg ((([.int .i64 r.1, .string r.2.1, .string r.2.2.1, .bool r.2.2.2.1, .int .i64 r.2.2.2.2.1, .slice A1 r.2.2.2.2.2.length c1] : List Value))).toArray) ∧ RdS Z' cS 1 A1 c1 r.2.2.2.2.2 ∧ Inv w0 Z' w' A)) (w := w) (args := [.agg ((([.int .i64 a0_ID, .string a0_Name, .string a0_Data, .bool a0_Sealed, .int .i64 a0_Until, .slice A_a0_Holds a0_Holds.length c_a0_Holds] : List Value))).toArray]) (fn := Go.Proofs.Tryd.f19) 5 Go.Proofs.Tryd.func19 (by rfl) Go.Proofs.Tryd.ntmps19 (by kernel_rfl)
  refine e4 ?_
  clear e4
  unfold file_Meta at h0
  refine CodT.seq ?_
  refine CodT.regionL [0, 1] (by kernel_rfl) ?_
  refine OpsT.cons (Does.boxL (d := 1) (T := 24) (v := .agg ((([.int .i64 a0_ID, .string a0_Name, .string a0_Data, .bool a0_Sealed, .int .i64 a0_Until, .slice A_a0_Holds a0_Holds.length c_a0_Holds] : List Value))).toArray) ((([.int .i64 a0_ID, .string a0_Name, .string a0_Data, .bool a0_Sealed, .int .i64 a0_Until, .slice A_a0_Holds a0_Holds.length c_a0_Holds] : List Value))) (by kernel_rfl) hI (by kernel_rfl) ?_)
  intro b1 w hI
  refine OpsT.cons (Does.allocL (d := 2) (T := 24) ((([.int .i64 0, .string (⟨#[]⟩ : ByteArray), .string (⟨#[]⟩ : ByteArray), .bool false, .int .i64 0, .slice none 0 0] : List Value))) (by kernel_rfl) ty24 hI (by kernel_rfl) ?_)
  intro b2 w hI
  refine OpsT.done ?_
  refine Qn.then ?_
  refine CodT.seq ?_
  refine CodT.regionL [0, 1] (by kernel_rfl) ?_
  refine OpsT.pures (r := [1]) [0] [1, 2, 3] (S' := [(1, .pointer (some ⟨b1, 0, none⟩)), (2, .pointer (some ⟨b2, 0, none⟩)), (3, .pointer (some ⟨b1, 2, none⟩))]) (by kernel_rfl) ?_
  have hI := hI.mono (pick2 _ _ _)
  refine OpsT.cons (Does.storeLit (T := 9) (b := b1) (o := 2) (v := .string (⟨#[]⟩ : ByteArray)) (l := (([.int .i64 a0_ID, .string a0_Name, .string a0_Data, .bool a0_Sealed, .int .i64 a0_Until, .slice A_a0_Holds a0_Holds.length c_a0_Holds] : List Value))) (vs := ([.string (⟨#[]⟩ : ByteArray)] : List Value)) (L' := (([.int .i64 a0_ID, .string a0_Name, .string (⟨#[]⟩ : ByteArray), .bool a0_Sealed, .int .i64 a0_Until, .slice A_a0_Holds a0_Holds.length c_a0_Holds] : List Value))) (by kernel_rfl) ty9 hI (by kernel_rfl) (by kernel_rfl) (by kernel_rfl) (by kernel_rfl) (by kernel_rfl) ?_)
  intro w hI
  refine OpsT.done ?_
  refine Qn.then ?_
  refine CodT.seq ?_
  refine CodT.regionL [0, 1] (by kernel_rfl) ?_
  refine OpsT.cons (Does.yi (Yl.load (d := 4) (T := 24) (v := .agg ((([.int .i64 a0_ID, .string a0_Name, .string (⟨#[]⟩ : ByteArray), .bool a0_Sealed, .int .i64 a0_Until, .slice A_a0_Holds a0_Holds.length c_a0_Holds] : List Value))).toArray) (by kernel_rfl) (ldBN ty24 (l := (([.int .i64 a0_ID, .string a0_Name, .string (⟨#[]⟩ : ByteArray), .bool a0_Sealed, .int .i64 a0_Until, .slice A_a0_Holds a0_Holds.length c_a0_Holds] : List Value))) (o := 0) (cs := (([.int .i64 a0_ID, .string a0_Name, .string (⟨#[]⟩ : ByteArray), .bool a0_Sealed, .int .i64 a0_Until, .slice A_a0_Holds a0_Holds.length c_a0_Holds] : List Value))) (ent_refl _) (by kernel_rfl) (whole _ _ (by kernel_rfl)))) hI ?_)
  have hI := hI.mono (pick2 _ _ _)
  refine OpsT.cons (Does.storeLit (T := 24) (b := b2) (o := 0) (v := .agg ((([.int .i64 a0_ID, .string a0_Name, .string (⟨#[]⟩ : ByteArray), .bool a0_Sealed, .int .i64 a0_Until, .slice A_a0_Holds a0_Holds.length c_a0_Holds] : List Value))).toArray) (l := (([.int .i64 0, .string (⟨#[]⟩ : ByteArray), .string (⟨#[]⟩ : ByteArray), .bool false, .int .i64 0, .slice none 0 0] : List Value))) (vs := (([.int .i64 a0_ID, .string a0_Name, .string (⟨#[]⟩ : ByteArray), .bool a0_Sealed, .int .i64 a0_Until, .slice A_a0_Holds a0_Holds.length c_a0_Holds] : List Value))) (L' := (([.int .i64 a0_ID, .string a0_Name, .string (⟨#[]⟩ : ByteArray), .bool a0_Sealed, .int .i64 a0_Until, .slice A_a0_Holds a0_Holds.length c_a0_Holds] : List Value))) (by kernel_rfl) ty24 hI (by kernel_rfl) (by kernel_rfl) (by kernel_rfl) (by kernel_rfl) (by kernel_rfl) ?_)
  intro w hI
  refine OpsT.done ?_
  refine Qn.then ?_
  refine CodT.ret ?_
  have hL3 := (ldBN ty24 (l := (([.int .i64 a0_ID, .string a0_Name, .string (⟨#[]⟩ : ByteArray), .bool a0_Sealed, .int .i64 a0_Until, .slice A_a0_Holds a0_Holds.length c_a0_Holds] : List Value))) (o := 0) (cs := (([.int .i64 a0_ID, .string a0_Name, .string (⟨#[]⟩ : ByteArray), .bool a0_Sealed, .int .i64 a0_Until, .slice A_a0_Holds a0_Holds.length c_a0_Holds] : List Value))) (ent_refl _) (by kernel_rfl) (whole _ _ (by kernel_rfl))) w hI
  have hI := hI.drop
  have hI := hI.drop
  have e := someS h0
  subst e
  refine Qn.keep [2] (S' := [(2, .pointer (some ⟨b2, 0, none⟩))]) (by kernel_rfl) ?_
  exact post_ret (v := .agg ((([.int .i64 a0_ID, .string a0_Name, .string (⟨#[]⟩ : ByteArray), .bool a0_Sealed, .int .i64 a0_Until, .slice A_a0_Holds a0_Holds.length c_a0_Holds] : List Value))).toArray) (fun a ha => RunRes.run (vs := [.agg ((([.int .i64 a0_ID, .string a0_Name, .string (⟨#[]⟩ : ByteArray), .bool a0_Sealed, .int .i64 a0_Until, .slice A_a0_Holds a0_Holds.length c_a0_Holds] : List Value))).toArray]) (.cell (t := 2) (T := 24) (ad := ⟨b2, 0, none⟩) (by kernel_rfl) hL3 .nil) ha (by kernel_rfl)) ⟨A_a0_Holds, c_a0_Holds, Z, Hp.le_refl _, rfl, hr_a0_Holds, hI⟩
set_option maxRecDepth 100000 in
set_option maxHeartbeats 4000000 in
/-- cenotaph/cenotaphlaw08.works -/
theorem c9 (w0 w : World) (Z : Hp) (A : HP) (hI : Inv w0 Z w A) (hT : Tabs Z)  (r : Bool) (h0 : law08_works = some r) :
    Calls prog 9 #[] w (fun e w' => e = .returned (.bool r) ∧ Inv w0 Z w' A) := by
  have e4 := calls_intro (R := (fun e w' => e = .returned (.bool r) ∧ Inv w0 Z w' A)) (w := w) (args := []) (fn := Go.Proofs.Tryd.f9) 84 Go.Proofs.Tryd.func9 (by rfl) Go.Proofs.Tryd.ntmps9 (by kernel_rfl)
  refine e4 ?_
  clear e4
  unfold law08_works at h0
  refine CodT.seq ?_
  refine CodT.regionL [0] (by kernel_rfl) ?_
  refine OpsT.pures (r := []) [0] [] (S' := []) (by kernel_rfl) ?_
  refine OpsT.done ?_
  refine Qn.then ?_
  refine CodT.seq ?_
  refine CodT.regionL [0, 1, 2, 3, 4, 5, 6] (by kernel_rfl) ?_
  obtain ⟨⟨y2, y3, y4, y5, y6, y7, y10⟩, hc1, h0⟩ := bindS h0
  try dsimp only at h0
  refine OpsT.cons (Does.call (d := some 10) (n := 13) (vs := [.int .i64 1, .string (⟨#[120]⟩ : ByteArray)]) (by kernel_rfl) en13 (c13 w0 w _ _ hI hT 1 (⟨#[120]⟩ : ByteArray) _ hc1) ?_)
  rintro e w ⟨A8, cp9, rfl, hI⟩
  refine ⟨_, rfl, ?_⟩
  refine OpsT.pures (r := [4, 5, 6]) [1, 2, 3] [11, 12] (S' := [(11, .agg ((([.int .i64 y2, .string y3, .string y4, .bool y5, .int .i64 y6, .slice A8 y7.length cp9] : List Value))).toArray), (12, .int .i64 y10)]) (by kernel_rfl) ?_
  refine OpsT.cons (Does.allocL (d := 1) (T := 24) ((([.int .i64 0, .string (⟨#[]⟩ : ByteArray), .string (⟨#[]⟩ : ByteArray), .bool false, .int .i64 0, .slice none 0 0] : List Value))) (by kernel_rfl) ty24 hI (by kernel_rfl) ?_)
  intro b11 w hI
  refine OpsT.cons (Does.storeLit (T := 24) (b := b11) (o := 0) (v := .agg ((([.int .i64 y2, .string y3, .string y4, .bool y5, .int .i64 y6, .slice A8 y7.length cp9] : List Value))).toArray) (l := (([.int .i64 0, .string (⟨#[]⟩ : ByteArray), .string (⟨#[]⟩ : ByteArray), .bool false, .int .i64 0, .slice none 0 0] : List Value))) (vs := (([.int .i64 y2, .string y3, .string y4, .bool y5, .int .i64 y6, .slice A8 y7.length cp9] : List Value))) (L' := (([.int .i64 y2, .string y3, .string y4, .bool y5, .int .i64 y6, .slice A8 y7.length cp9] : List Value))) (by kernel_rfl) ty24 hI (by kernel_rfl) (by kernel_rfl) (by kernel_rfl) (by kernel_rfl) (by kernel_rfl) ?_)
  intro w hI
  refine OpsT.pures (r := []) [6] [1, 2] (S' := [(1, .pointer (some ⟨b11, 0, none⟩)), (2, .int .i64 y10)]) (by kernel_rfl) ?_
  refine OpsT.done ?_
  refine Qn.then ?_
  refine CodT.seq ?_
  refine CodT.regionL [0, 1, 2, 3, 4, 5, 6] (by kernel_rfl) ?_
  refine OpsT.cons (Does.yi (Yl.load (d := 14) (T := 24) (v := .agg ((([.int .i64 y2, .string y3, .string y4, .bool y5, .int .i64 y6, .slice A8 y7.length cp9] : List Value))).toArray) (by kernel_rfl) (ldBN ty24 (l := (([.int .i64 y2, .string y3, .string y4, .bool y5, .int .i64 y6, .slice A8 y7.length cp9] : List Value))) (o := 0) (cs := (([.int .i64 y2, .string y3, .string y4, .bool y5, .int .i64 y6, .slice A8 y7.length cp9] : List Value))) (ent_refl _) (by kernel_rfl) (whole _ _ (by kernel_rfl)))) hI ?_)
  have hI := hI.mono (pick2 _ _ _)
  obtain ⟨Z12, hle13, hr14, hI⟩ := ownS_freeze hI
  obtain ⟨⟨y16, y17, y18, y19, y20, y21, y25⟩, hc15, h0⟩ := bindS h0
  try dsimp only at h0
  refine OpsT.cons (Does.call (d := some 15) (n := 22) (vs := [.agg ((([.int .i64 y2, .string y3, .string y4, .bool y5, .int .i64 y6, .slice A8 y7.length cp9] : List Value))).toArray, .string (⟨#[97, 98]⟩ : ByteArray)]) (by kernel_rfl) en22 (c22 w0 w _ _ hI (hT.mono hle13) y2 y3 y4 y5 y6 A8 cp9 y7 hr14 (⟨#[97, 98]⟩ : ByteArray) _ hc15) ?_)
  rintro e w ⟨A22, cp23, Z26, hle27, rfl, hr24, hI⟩
  refine ⟨_, rfl, ?_⟩
  refine OpsT.pures (r := [5, 6]) [2, 3, 4] [1, 2, 16, 17] (S' := [(1, .pointer (some ⟨b11, 0, none⟩)), (2, .int .i64 y10), (16, .agg ((([.int .i64 y16, .string y17, .string y18, .bool y19, .int .i64 y20, .slice A22 y21.length cp23] : List Value))).toArray), (17, .int .i64 y25)]) (by kernel_rfl) ?_
  refine OpsT.cons (Does.storeLit (T := 24) (b := b11) (o := 0) (v := .agg ((([.int .i64 y16, .string y17, .string y18, .bool y19, .int .i64 y20, .slice A22 y21.length cp23] : List Value))).toArray) (l := (([.int .i64 y2, .string y3, .string y4, .bool y5, .int .i64 y6, .slice A8 y7.length cp9] : List Value))) (vs := (([.int .i64 y16, .string y17, .string y18, .bool y19, .int .i64 y20, .slice A22 y21.length cp23] : List Value))) (L' := (([.int .i64 y16, .string y17, .string y18, .bool y19, .int .i64 y20, .slice A22 y21.length cp23] : List Value))) (by kernel_rfl) ty24 hI (by kernel_rfl) (by kernel_rfl) (by kernel_rfl) (by kernel_rfl) (by kernel_rfl) ?_)
  intro w hI
  refine OpsT.pures (r := []) [6] [1, 2, 3] (S' := [(1, .pointer (some ⟨b11, 0, none⟩)), (2, .int .i64 y10), (3, .int .i64 y25)]) (by kernel_rfl) ?_
  refine OpsT.done ?_
  refine Qn.then ?_
  refine CodT.seq ?_
  refine CodT.regionL [0, 1, 2, 3, 4, 5, 6, 7, 8, 9, 10, 11] (by kernel_rfl) ?_
  refine OpsT.cons (Does.yi (Yl.load (d := 19) (T := 24) (v := .agg ((([.int .i64 y16, .string y17, .string y18, .bool y19, .int .i64 y20, .slice A22 y21.length cp23] : List Value))).toArray) (by kernel_rfl) (ldBN ty24 (l := (([.int .i64 y16, .string y17, .string y18, .bool y19, .int .i64 y20, .slice A22 y21.length cp23] : List Value))) (o := 0) (cs := (([.int .i64 y16, .string y17, .string y18, .bool y19, .int .i64 y20, .slice A22 y21.length cp23] : List Value))) (ent_refl _) (by kernel_rfl) (whole _ _ (by kernel_rfl)))) hI ?_)
  refine OpsT.pures (r := [2, 3, 4, 5, 6, 7, 8, 9, 10, 11]) [1] [2, 3, 19, 20] (S' := [(2, .int .i64 y10), (3, .int .i64 y25), (19, .agg ((([.int .i64 y16, .string y17, .string y18, .bool y19, .int .i64 y20, .slice A22 y21.length cp23] : List Value))).toArray), (20, .agg (c_ApiOp (ApiOp.mk 1 (⟨#[]⟩ : ByteArray) (⟨#[99]⟩ : ByteArray) 0 0 0)).toArray)]) (by kernel_rfl) ?_
  obtain ⟨⟨y29, y30, y31, y32, y33, y34, y38, y40⟩, hc28, h0⟩ := bindS h0
  try dsimp only at h0
  refine OpsT.cons (Does.call (d := some 21) (n := 20) (vs := [.agg ((([.int .i64 y16, .string y17, .string y18, .bool y19, .int .i64 y20, .slice A22 y21.length cp23] : List Value))).toArray, .agg (c_ApiOp (ApiOp.mk 1 (⟨#[]⟩ : ByteArray) (⟨#[99]⟩ : ByteArray) 0 0 0)).toArray, .int .i64 0]) (by kernel_rfl) en20 (c20 w0 w _ _ hI (hT.mono (Hp.le_trans hle13 hle27)) y16 y17 y18 y19 y20 A22 cp23 y21 hr24 (ApiOp.mk 1 (⟨#[]⟩ : ByteArray) (⟨#[99]⟩ : ByteArray) 0 0 0) 0 _ hc28) ?_)
  rintro e w ⟨A35, cp36, Z41, hle42, rfl, hr37, hl39, hI⟩
  refine ⟨_, rfl, ?_⟩
  refine OpsT.pures (r := [7, 8, 9, 10, 11]) [3, 4, 5, 6] [2, 3, 22, 23, 24] (S' := [(2, .int .i64 y10), (3, .int .i64 y25), (22, .agg ((([.int .i64 y29, .string y30, .string y31, .bool y32, .int .i64 y33, .slice A35 y34.length cp36] : List Value))).toArray), (23, .agg (c_ApiEvent y38).toArray), (24, .int .i64 y40)]) (by kernel_rfl) ?_
  refine OpsT.cons (Does.allocL (d := 4) (T := 24) ((([.int .i64 0, .string (⟨#[]⟩ : ByteArray), .string (⟨#[]⟩ : ByteArray), .bool false, .int .i64 0, .slice none 0 0] : List Value))) (by kernel_rfl) ty24 hI (by kernel_rfl) ?_)
  intro b43 w hI
  refine OpsT.cons (Does.allocL (d := 5) (T := 39) (c_ApiEvent (ApiEvent.mk 0 0 (⟨#[]⟩ : ByteArray) 0 0 (List.replicate 32 (0 : Int)))) (by kernel_rfl) ty39 hI (by kernel_rfl) ?_)
  intro b44 w hI
  have hI := hI.mono (pick2 _ _ _)
  refine OpsT.cons (Does.storeLit (T := 24) (b := b43) (o := 0) (v := .agg ((([.int .i64 y29, .string y30, .string y31, .bool y32, .int .i64 y33, .slice A35 y34.length cp36] : List Value))).toArray) (l := (([.int .i64 0, .string (⟨#[]⟩ : ByteArray), .string (⟨#[]⟩ : ByteArray), .bool false, .int .i64 0, .slice none 0 0] : List Value))) (vs := (([.int .i64 y29, .string y30, .string y31, .bool y32, .int .i64 y33, .slice A35 y34.length cp36] : List Value))) (L' := (([.int .i64 y29, .string y30, .string y31, .bool y32, .int .i64 y33, .slice A35 y34.length cp36] : List Value))) (by kernel_rfl) ty24 hI (by kernel_rfl) (by kernel_rfl) (by kernel_rfl) (by kernel_rfl) (by kernel_rfl) ?_)
  intro w hI
  have hI := hI.mono (pick2 _ _ _)
  refine OpsT.cons (Does.storeLit (T := 39) (b := b44) (o := 0) (v := .agg (c_ApiEvent y38).toArray) (l := c_ApiEvent (ApiEvent.mk 0 0 (⟨#[]⟩ : ByteArray) 0 0 (List.replicate 32 (0 : Int)))) (vs := c_ApiEvent y38) (L' := c_ApiEvent y38) (by kernel_rfl) ty39 hI (by kernel_rfl) (len_ApiEvent _ hl39) (by rw [(len_ApiEvent _ (by kernel_rfl))]; kernel_rfl) (ones_app _ _ (by kernel_rfl) (ones_cA _)) (lset_all _ _ (Eq.trans (len_ApiEvent _ hl39) (Eq.symm (len_ApiEvent _ (by kernel_rfl))))) ?_)
  intro w hI
  refine OpsT.pures (r := []) [11] [2, 3, 4, 5, 6] (S' := [(2, .int .i64 y10), (3, .int .i64 y25), (4, .pointer (some ⟨b43, 0, none⟩)), (5, .pointer (some ⟨b44, 0, none⟩)), (6, .int .i64 y40)]) (by kernel_rfl) ?_
  refine OpsT.done ?_
  refine Qn.then ?_
  refine CodT.seq ?_
  refine CodT.regionL [0, 1, 2, 3, 4, 5, 6] (by kernel_rfl) ?_
  refine OpsT.cons (Does.yi (Yl.load (d := 26) (T := 24) (v := .agg ((([.int .i64 y29, .string y30, .string y31, .bool y32, .int .i64 y33, .slice A35 y34.length cp36] : List Value))).toArray) (by kernel_rfl) (ldBN ty24 (l := (([.int .i64 y29, .string y30, .string y31, .bool y32, .int .i64 y33, .slice A35 y34.length cp36] : List Value))) (o := 0) (cs := (([.int .i64 y29, .string y30, .string y31, .bool y32, .int .i64 y33, .slice A35 y34.length cp36] : List Value))) (pick2 _ _ _) (by kernel_rfl) (whole _ _ (by kernel_rfl)))) hI ?_)
  obtain ⟨⟨y46, y47⟩, hc45, h0⟩ := bindS h0
  try dsimp only at h0
  refine OpsT.cons (Does.call (d := some 27) (n := 11) (vs := [.agg ((([.int .i64 y29, .string y30, .string y31, .bool y32, .int .i64 y33, .slice A35 y34.length cp36] : List Value))).toArray, .int .i64 1, .int .i64 3]) (by kernel_rfl) en11 (c11 w0 w _ _ hI (hT.mono (Hp.le_trans (Hp.le_trans hle13 hle27) hle42)) y29 y30 y31 y32 y33 A35 cp36 y34 hr37 1 3 _ hc45) ?_)
  rintro e w ⟨rfl, hI⟩
  refine ⟨_, rfl, ?_⟩
  refine OpsT.pures (r := []) [2, 3, 4, 5, 6] [2, 3, 4, 5, 6, 7, 8] (S' := [(2, .int .i64 y10), (3, .int .i64 y25), (4, .pointer (some ⟨b43, 0, none⟩)), (5, .pointer (some ⟨b44, 0, none⟩)), (6, .int .i64 y40), (7, .string y46), (8, .int .i64 y47)]) (by kernel_rfl) ?_
  refine OpsT.done ?_
  refine Qn.then ?_
  obtain ⟨r1, h1, h0⟩ := bindS h0
  refine CodT.meet (fun a w => ∃ (x50 : Bool) (Z48 : Hp), x50 = r1 ∧ Fr 84 [(0, .bool x50)] a ∧ Inv w0 Z48 w A ∧ Z41.le Z48) ?_ ?_
  ·
    refine CodT.regionL [0, 1, 2, 3, 4, 5, 6, 7, 8, 9, 10, 11, 12, 13, 14, 15, 16, 17, 18, 19, 20, 21, 22, 23, 24, 25, 26, 27, 28, 29, 30, 31, 32, 33, 34, 35, 36, 37, 38, 39, 40, 41, 42, 43, 44, 45, 46, 47, 48, 49, 50, 51, 52, 53, 54] (by kernel_rfl) ?_
    refine OpsT.pures (r := [3, 4, 5, 6, 7, 8, 9, 10, 11, 12, 13, 14, 15, 16, 17, 18, 19, 20, 21, 22, 23, 24, 25, 26, 27, 28, 29, 30, 31, 32, 33, 34, 35, 36, 37, 38, 39, 40, 41, 42, 43, 44, 45, 46, 47, 48, 49, 50, 51, 52, 53, 54]) [0, 1, 2] [3, 4, 5, 6, 7, 8, 32] (S' := [(3, .int .i64 y25), (4, .pointer (some ⟨b43, 0, none⟩)), (5, .pointer (some ⟨b44, 0, none⟩)), (6, .int .i64 y40), (7, .string y46), (8, .int .i64 y47), (32, .bool (y10 == 0))]) (by kernel_rfl) ?_
    by_cases hb51 : (y10 == 0) = true
    · rw [if_pos hb51] at h1
      refine OpsT.keep [3, 4, 5, 6, 7, 8, 32] (S' := [(3, .int .i64 y25), (4, .pointer (some ⟨b43, 0, none⟩)), (5, .pointer (some ⟨b44, 0, none⟩)), (6, .int .i64 y40), (7, .string y46), (8, .int .i64 y47), (32, .bool true)]) (by (try simp only [hb51]); kernel_rfl) ?_
      refine OpsT.pures (r := [7, 8, 9, 10, 11, 12, 13, 14, 15, 16, 17, 18, 19, 20, 21, 22, 23, 24, 25, 26, 27, 28, 29, 30, 31, 32, 33, 34, 35, 36, 37, 38, 39, 40, 41, 42, 43, 44, 45, 46, 47, 48, 49, 50, 51, 52, 53, 54]) [3, 4, 5, 6] [4, 5, 6, 7, 8, 36] (S' := [(4, .pointer (some ⟨b43, 0, none⟩)), (5, .pointer (some ⟨b44, 0, none⟩)), (6, .int .i64 y40), (7, .string y46), (8, .int .i64 y47), (36, .bool (y25 == 0))]) (by kernel_rfl) ?_
      by_cases hb52 : (y25 == 0) = true
      · rw [if_pos hb52] at h1
        refine OpsT.keep [4, 5, 6, 7, 8, 36] (S' := [(4, .pointer (some ⟨b43, 0, none⟩)), (5, .pointer (some ⟨b44, 0, none⟩)), (6, .int .i64 y40), (7, .string y46), (8, .int .i64 y47), (36, .bool true)]) (by (try simp only [hb52]); kernel_rfl) ?_
        refine OpsT.pures (r := [11, 12, 13, 14, 15, 16, 17, 18, 19, 20, 21, 22, 23, 24, 25, 26, 27, 28, 29, 30, 31, 32, 33, 34, 35, 36, 37, 38, 39, 40, 41, 42, 43, 44, 45, 46, 47, 48, 49, 50, 51, 52, 53, 54]) [7, 8, 9, 10] [4, 5, 7, 8, 40] (S' := [(4, .pointer (some ⟨b43, 0, none⟩)), (5, .pointer (some ⟨b44, 0, none⟩)), (7, .string y46), (8, .int .i64 y47), (40, .bool (y40 == 0))]) (by kernel_rfl) ?_
        by_cases hb53 : (y40 == 0) = true
        · rw [if_pos hb53] at h1
          refine OpsT.keep [4, 5, 7, 8, 40] (S' := [(4, .pointer (some ⟨b43, 0, none⟩)), (5, .pointer (some ⟨b44, 0, none⟩)), (7, .string y46), (8, .int .i64 y47), (40, .bool true)]) (by (try simp only [hb53]); kernel_rfl) ?_
          refine OpsT.pures (r := [12, 13, 14, 15, 16, 17, 18, 19, 20, 21, 22, 23, 24, 25, 26, 27, 28, 29, 30, 31, 32, 33, 34, 35, 36, 37, 38, 39, 40, 41, 42, 43, 44, 45, 46, 47, 48, 49, 50, 51, 52, 53, 54]) [11] [4, 5, 7, 8, 40, 41] (S' := [(4, .pointer (some ⟨b43, 0, none⟩)), (5, .pointer (some ⟨b44, 0, none⟩)), (7, .string y46), (8, .int .i64 y47), (40, .bool true), (41, .pointer (some ⟨b43, 2, none⟩))]) (by kernel_rfl) ?_
          refine OpsT.cons (Does.yi (Yl.load (d := 42) (T := 9) (v := .string y31) (by kernel_rfl) (ldB ty9 (l := (([.int .i64 y29, .string y30, .string y31, .bool y32, .int .i64 y33, .slice A35 y34.length cp36] : List Value))) (o := 2) (v := .string y31) (pick2 _ _ _) (by kernel_rfl))) hI ?_)
          refine OpsT.pures (r := [16, 17, 18, 19, 20, 21, 22, 23, 24, 25, 26, 27, 28, 29, 30, 31, 32, 33, 34, 35, 36, 37, 38, 39, 40, 41, 42, 43, 44, 45, 46, 47, 48, 49, 50, 51, 52, 53, 54]) [13, 14, 15] [4, 5, 7, 8, 45] (S' := [(4, .pointer (some ⟨b43, 0, none⟩)), (5, .pointer (some ⟨b44, 0, none⟩)), (7, .string y46), (8, .int .i64 y47), (45, .bool (seq y31 (⟨#[97, 98, 99]⟩ : ByteArray)))]) (by kernel_rfl) ?_
          by_cases hb54 : (seq y31 (⟨#[97, 98, 99]⟩ : ByteArray)) = true
          · rw [if_pos hb54] at h1
            refine OpsT.keep [4, 5, 7, 8, 45] (S' := [(4, .pointer (some ⟨b43, 0, none⟩)), (5, .pointer (some ⟨b44, 0, none⟩)), (7, .string y46), (8, .int .i64 y47), (45, .bool true)]) (by (try simp only [hb54]); kernel_rfl) ?_
            refine OpsT.cons (Does.yi (Yl.load (d := 46) (T := 39) (v := .agg (c_ApiEvent y38).toArray) (by kernel_rfl) (ldBN ty39 (l := c_ApiEvent y38) (o := 0) (cs := c_ApiEvent y38) (ent_refl _) (len_ApiEvent _ hl39) (whole _ _ (len_ApiEvent _ hl39)))) hI ?_)
            refine OpsT.pures (r := [18, 19, 20, 21, 22, 23, 24, 25, 26, 27, 28, 29, 30, 31, 32, 33, 34, 35, 36, 37, 38, 39, 40, 41, 42, 43, 44, 45, 46, 47, 48, 49, 50, 51, 52, 53, 54]) [17] [4, 7, 8, 45, 46, 47] (S' := [(4, .pointer (some ⟨b43, 0, none⟩)), (7, .string y46), (8, .int .i64 y47), (45, .bool true), (46, .agg (c_ApiEvent y38).toArray), (47, .agg (c_ApiEvent (ApiEvent.mk 1 1 (⟨#[]⟩ : ByteArray) 0 1 (List.replicate 32 (0 : Int)))).toArray)]) (by kernel_rfl) ?_
            refine OpsT.cons (Does.yi (Yl.eqlS (d := 48) (T := 39) (xs := ([.int .i64 y38.Kind, .int .i64 y38.ID, .string y38.Name, .int .i64 y38.Time, .int .i64 y38.Len] : List Value) ++ (cA (Value.int .u8) y38.Sum)) (ys := ([.int .i64 1, .int .i64 1, .string (⟨#[]⟩ : ByteArray), .int .i64 0, .int .i64 1] : List Value) ++ (cA (Value.int .u8) (List.replicate 32 (0 : Int)))) (r := eq_ApiEvent y38 (ApiEvent.mk 1 1 (⟨#[]⟩ : ByteArray) 0 1 (List.replicate 32 (0 : Int)))) (by kernel_rfl) Go.Proofs.Tryd.underlying39 (by kernel_rfl) (by kernel_rfl) (.cons rfl (part1 (v := .int .i64 y38.Kind) ty35 (by kernel_rfl)) (part1 (v := .int .i64 1) ty35 (by kernel_rfl)) (eqI Go.Proofs.Tryd.underlying35) (.cons rfl (part1 (v := .int .i64 y38.ID) ty3 (by kernel_rfl)) (part1 (v := .int .i64 1) ty3 (by kernel_rfl)) (eqI Go.Proofs.Tryd.underlying3) (.cons rfl (part1 (v := .string y38.Name) ty9 (by kernel_rfl)) (part1 (v := .string (⟨#[]⟩ : ByteArray)) ty9 (by kernel_rfl)) (eqS Go.Proofs.Tryd.underlying9) (.cons rfl (part1 (v := .int .i64 y38.Time) ty3 (by kernel_rfl)) (part1 (v := .int .i64 0) ty3 (by kernel_rfl)) (eqI Go.Proofs.Tryd.underlying3) (.cons rfl (part1 (v := .int .i64 y38.Len) ty3 (by kernel_rfl)) (part1 (v := .int .i64 1) ty3 (by kernel_rfl)) (eqI Go.Proofs.Tryd.underlying3) (.cons rfl (partN ty37 (tail_take _ _ _ _ _ (by kernel_rfl) hl39)) (partN ty37 (tail_take _ _ _ _ _ (by kernel_rfl) (by kernel_rfl))) (eqAr Go.Proofs.Tryd.underlying37 Go.Proofs.Tryd.underlying5 ty5 hl39 (by kernel_rfl)) .nil))))))) hI ?_)
            refine OpsT.pures (r := [21, 22, 23, 24, 25, 26, 27, 28, 29, 30, 31, 32, 33, 34, 35, 36, 37, 38, 39, 40, 41, 42, 43, 44, 45, 46, 47, 48, 49, 50, 51, 52, 53, 54]) [19, 20] [4, 7, 8, 50] (S' := [(4, .pointer (some ⟨b43, 0, none⟩)), (7, .string y46), (8, .int .i64 y47), (50, .bool (eq_ApiEvent y38 (ApiEvent.mk 1 1 (⟨#[]⟩ : ByteArray) 0 1 (List.replicate 32 (0 : Int)))))]) (by kernel_rfl) ?_
            by_cases hb55 : (eq_ApiEvent y38 (ApiEvent.mk 1 1 (⟨#[]⟩ : ByteArray) 0 1 (List.replicate 32 (0 : Int)))) = true
            · rw [if_pos hb55] at h1
              refine OpsT.keep [4, 7, 8, 50] (S' := [(4, .pointer (some ⟨b43, 0, none⟩)), (7, .string y46), (8, .int .i64 y47), (50, .bool true)]) (by (try simp only [hb55]); kernel_rfl) ?_
              refine OpsT.pures (r := [25, 26, 27, 28, 29, 30, 31, 32, 33, 34, 35, 36, 37, 38, 39, 40, 41, 42, 43, 44, 45, 46, 47, 48, 49, 50, 51, 52, 53, 54]) [21, 22, 23, 24] [4, 8, 54] (S' := [(4, .pointer (some ⟨b43, 0, none⟩)), (8, .int .i64 y47), (54, .bool (seq y46 (⟨#[98, 99]⟩ : ByteArray)))]) (by kernel_rfl) ?_
              by_cases hb56 : (seq y46 (⟨#[98, 99]⟩ : ByteArray)) = true
              · rw [if_pos hb56] at h1
                refine OpsT.keep [4, 8, 54] (S' := [(4, .pointer (some ⟨b43, 0, none⟩)), (8, .int .i64 y47), (54, .bool true)]) (by (try simp only [hb56]); kernel_rfl) ?_
                refine OpsT.pures (r := [29, 30, 31, 32, 33, 34, 35, 36, 37, 38, 39, 40, 41, 42, 43, 44, 45, 46, 47, 48, 49, 50, 51, 52, 53, 54]) [25, 26, 27, 28] [4, 58] (S' := [(4, .pointer (some ⟨b43, 0, none⟩)), (58, .bool (y47 == 0))]) (by kernel_rfl) ?_
                by_cases hb57 : (y47 == 0) = true
                · rw [if_pos hb57] at h1
                  refine OpsT.keep [4, 58] (S' := [(4, .pointer (some ⟨b43, 0, none⟩)), (58, .bool true)]) (by (try simp only [hb57]); kernel_rfl) ?_
                  refine OpsT.cons (Does.yi (Yl.load (d := 59) (T := 24) (v := .agg ((([.int .i64 y29, .string y30, .string y31, .bool y32, .int .i64 y33, .slice A35 y34.length cp36] : List Value))).toArray) (by kernel_rfl) (ldBN ty24 (l := (([.int .i64 y29, .string y30, .string y31, .bool y32, .int .i64 y33, .slice A35 y34.length cp36] : List Value))) (o := 0) (cs := (([.int .i64 y29, .string y30, .string y31, .bool y32, .int .i64 y33, .slice A35 y34.length cp36] : List Value))) (pick2 _ _ _) (by kernel_rfl) (whole _ _ (by kernel_rfl)))) hI ?_)
                  obtain ⟨y59, hc58, h1⟩ := bindS h1
                  try dsimp only at h1
                  refine OpsT.cons (Does.call (d := some 60) (n := 17) (vs := [.agg ((([.int .i64 y29, .string y30, .string y31, .bool y32, .int .i64 y33, .slice A35 y34.length cp36] : List Value))).toArray]) (by kernel_rfl) en17 (c17 w0 w _ _ hI (hT.mono (Hp.le_trans (Hp.le_trans hle13 hle27) hle42)) y29 y30 y31 y32 y33 A35 cp36 y34 hr37 _ hc58) ?_)
                  rintro e w ⟨rfl, hI⟩
                  refine ⟨_, rfl, ?_⟩
                  refine OpsT.pures (r := [33, 34, 35, 36, 37, 38, 39, 40, 41, 42, 43, 44, 45, 46, 47, 48, 49, 50, 51, 52, 53, 54]) [31, 32] [4, 62] (S' := [(4, .pointer (some ⟨b43, 0, none⟩)), (62, .bool y59)]) (by kernel_rfl) ?_
                  by_cases hb60 : y59 = true
                  · rw [if_pos hb60] at h1
                    refine OpsT.keep [4, 62] (S' := [(4, .pointer (some ⟨b43, 0, none⟩)), (62, .bool true)]) (by (try simp only [hb60]); kernel_rfl) ?_
                    refine OpsT.cons (Does.yi (Yl.load (d := 63) (T := 24) (v := .agg ((([.int .i64 y29, .string y30, .string y31, .bool y32, .int .i64 y33, .slice A35 y34.length cp36] : List Value))).toArray) (by kernel_rfl) (ldBN ty24 (l := (([.int .i64 y29, .string y30, .string y31, .bool y32, .int .i64 y33, .slice A35 y34.length cp36] : List Value))) (o := 0) (cs := (([.int .i64 y29, .string y30, .string y31, .bool y32, .int .i64 y33, .slice A35 y34.length cp36] : List Value))) (pick2 _ _ _) (by kernel_rfl) (whole _ _ (by kernel_rfl)))) hI ?_)
                    refine OpsT.cons (Does.yi (Yl.load (d := 64) (T := 24) (v := .agg ((([.int .i64 y29, .string y30, .string y31, .bool y32, .int .i64 y33, .slice A35 y34.length cp36] : List Value))).toArray) (by kernel_rfl) (ldBN ty24 (l := (([.int .i64 y29, .string y30, .string y31, .bool y32, .int .i64 y33, .slice A35 y34.length cp36] : List Value))) (o := 0) (cs := (([.int .i64 y29, .string y30, .string y31, .bool y32, .int .i64 y33, .slice A35 y34.length cp36] : List Value))) (pick2 _ _ _) (by kernel_rfl) (whole _ _ (by kernel_rfl)))) hI ?_)
                    obtain ⟨y62, hc61, h1⟩ := bindS h1
                    try dsimp only at h1
                    refine OpsT.cons (Does.call (d := some 65) (n := 18) (vs := [.agg ((([.int .i64 y29, .string y30, .string y31, .bool y32, .int .i64 y33, .slice A35 y34.length cp36] : List Value))).toArray, .agg ((([.int .i64 y29, .string y30, .string y31, .bool y32, .int .i64 y33, .slice A35 y34.length cp36] : List Value))).toArray]) (by kernel_rfl) en18 (c18 w0 w _ _ hI (hT.mono (Hp.le_trans (Hp.le_trans hle13 hle27) hle42)) y29 y30 y31 y32 y33 A35 cp36 y34 hr37 y29 y30 y31 y32 y33 A35 cp36 y34 hr37 _ hc61) ?_)
                    rintro e w ⟨rfl, hI⟩
                    refine ⟨_, rfl, ?_⟩
                    refine OpsT.pures (r := [38, 39, 40, 41, 42, 43, 44, 45, 46, 47, 48, 49, 50, 51, 52, 53, 54]) [36, 37] [4, 67] (S' := [(4, .pointer (some ⟨b43, 0, none⟩)), (67, .bool y62)]) (by kernel_rfl) ?_
                    by_cases hb63 : y62 = true
                    · rw [if_pos hb63] at h1
                      refine OpsT.keep [4, 67] (S' := [(4, .pointer (some ⟨b43, 0, none⟩)), (67, .bool true)]) (by (try simp only [hb63]); kernel_rfl) ?_
                      refine OpsT.cons (Does.yi (Yl.load (d := 68) (T := 24) (v := .agg ((([.int .i64 y29, .string y30, .string y31, .bool y32, .int .i64 y33, .slice A35 y34.length cp36] : List Value))).toArray) (by kernel_rfl) (ldBN ty24 (l := (([.int .i64 y29, .string y30, .string y31, .bool y32, .int .i64 y33, .slice A35 y34.length cp36] : List Value))) (o := 0) (cs := (([.int .i64 y29, .string y30, .string y31, .bool y32, .int .i64 y33, .slice A35 y34.length cp36] : List Value))) (pick2 _ _ _) (by kernel_rfl) (whole _ _ (by kernel_rfl)))) hI ?_)
                      obtain ⟨⟨y65, y66, y67, y68, y69, y70⟩, hc64, h1⟩ := bindS h1
                      try dsimp only at h1
                      refine OpsT.cons (Does.call (d := some 69) (n := 19) (vs := [.agg ((([.int .i64 y29, .string y30, .string y31, .bool y32, .int .i64 y33, .slice A35 y34.length cp36] : List Value))).toArray]) (by kernel_rfl) en19 (c19 w0 w _ _ hI (hT.mono (Hp.le_trans (Hp.le_trans hle13 hle27) hle42)) y29 y30 y31 y32 y33 A35 cp36 y34 hr37 _ hc64) ?_)
                      rintro e w ⟨A71, cp72, Z74, hle75, rfl, hr73, hI⟩
                      refine ⟨_, rfl, ?_⟩
                      refine OpsT.pures (r := [44, 45, 46, 47, 48, 49, 50, 51, 52, 53, 54]) [40, 41, 42, 43] [4, 73] (S' := [(4, .pointer (some ⟨b43, 0, none⟩)), (73, .bool (seq y67 (⟨#[]⟩ : ByteArray)))]) (by kernel_rfl) ?_
                      by_cases hb76 : (seq y67 (⟨#[]⟩ : ByteArray)) = true
                      · rw [if_pos hb76] at h1
                        refine OpsT.keep [4, 73] (S' := [(4, .pointer (some ⟨b43, 0, none⟩)), (73, .bool true)]) (by (try simp only [hb76]); kernel_rfl) ?_
                        refine OpsT.cons (Does.yi (Yl.load (d := 74) (T := 24) (v := .agg ((([.int .i64 y29, .string y30, .string y31, .bool y32, .int .i64 y33, .slice A35 y34.length cp36] : List Value))).toArray) (by kernel_rfl) (ldBN ty24 (l := (([.int .i64 y29, .string y30, .string y31, .bool y32, .int .i64 y33, .slice A35 y34.length cp36] : List Value))) (o := 0) (cs := (([.int .i64 y29, .string y30, .string y31, .bool y32, .int .i64 y33, .slice A35 y34.length cp36] : List Value))) (pick2 _ _ _) (by kernel_rfl) (whole _ _ (by kernel_rfl)))) hI ?_)
                        obtain ⟨⟨y78, y79, y80, y81, y82, y83⟩, hc77, h1⟩ := bindS h1
                        try dsimp only at h1
                        refine OpsT.cons (Does.call (d := some 75) (n := 19) (vs := [.agg ((([.int .i64 y29, .string y30, .string y31, .bool y32, .int .i64 y33, .slice A35 y34.length cp36] : List Value))).toArray]) (by kernel_rfl) en19 (c19 w0 w _ _ hI (hT.mono (Hp.le_trans (Hp.le_trans (Hp.le_trans hle13 hle27) hle42) hle75)) y29 y30 y31 y32 y33 A35 cp36 y34 (hr37.mono hle75) _ hc77) ?_)
                        rintro e w ⟨A84, cp85, Z87, hle88, rfl, hr86, hI⟩
                        refine ⟨_, rfl, ?_⟩
                        refine OpsT.pures (r := [50, 51, 52, 53, 54]) [46, 47, 48, 49] [79] (S' := [(79, .bool (seq y79 (⟨#[120]⟩ : ByteArray)))]) (by kernel_rfl) ?_
                        by_cases hb89 : (seq y79 (⟨#[120]⟩ : ByteArray)) = true
                        · rw [if_pos hb89] at h1
                          refine OpsT.keep [79] (S' := [(79, .bool true)]) (by (try simp only [hb89]); kernel_rfl) ?_
                          refine OpsT.pures (r := [51, 52, 53, 54]) [50] [79, 80] (S' := [(79, .bool true), (80, .agg ((([.int .i64 0, .string (⟨#[]⟩ : ByteArray), .string (⟨#[]⟩ : ByteArray), .bool false, .int .i64 0, .slice none 0 0] : List Value))).toArray)]) (by kernel_rfl) ?_
                          obtain ⟨y91, hc90, h1⟩ := bindS h1
                          try dsimp only at h1
                          refine OpsT.cons (Does.call (d := some 81) (n := 17) (vs := [.agg ((([.int .i64 0, .string (⟨#[]⟩ : ByteArray), .string (⟨#[]⟩ : ByteArray), .bool false, .int .i64 0, .slice none 0 0] : List Value))).toArray]) (by kernel_rfl) en17 (c17 w0 w _ _ hI (hT.mono (Hp.le_trans (Hp.le_trans (Hp.le_trans (Hp.le_trans hle13 hle27) hle42) hle75) hle88)) 0 (⟨#[]⟩ : ByteArray) (⟨#[]⟩ : ByteArray) false 0 none 0 ([] : List ByteArray) (RdS.nil _ _ _ _ _ (Nat.zero_le _)) _ hc90) ?_)
                          rintro e w ⟨rfl, hI⟩
                          refine ⟨_, rfl, ?_⟩
                          refine OpsT.pures (r := []) [52, 53, 54] [0] (S' := [(0, .bool (!y91))]) (by kernel_rfl) ?_
                          refine OpsT.done ?_
                          have hI := hI.drop
                          have hI := hI.drop
                          have hI := hI.drop
                          have e := someS h1
                          subst e
                          exact Qn.thenJ fun a ha => ⟨!y91, Z87, rfl, ha.keep [0] (by kernel_rfl), hI, (Hp.le_trans hle75 hle88)⟩
                        · rw [if_neg hb89] at h1
                          have hb89 : (seq y79 (⟨#[120]⟩ : ByteArray)) = false := by simpa using hb89
                          refine OpsT.keep [79] (S' := [(79, .bool false)]) (by (try simp only [hb89]); kernel_rfl) ?_
                          refine OpsT.pures (r := []) [50, 51, 52, 53, 54] [0] (S' := [(0, .bool false)]) (by kernel_rfl) ?_
                          refine OpsT.done ?_
                          have hI := hI.drop
                          have hI := hI.drop
                          have hI := hI.drop
                          have e := someS h1
                          subst e
                          exact Qn.thenJ fun a ha => ⟨false, Z87, rfl, ha.keep [0] (by kernel_rfl), hI, (Hp.le_trans hle75 hle88)⟩
                      · rw [if_neg hb76] at h1
                        have hb76 : (seq y67 (⟨#[]⟩ : ByteArray)) = false := by simpa using hb76
                        refine OpsT.keep [4, 73] (S' := [(4, .pointer (some ⟨b43, 0, none⟩)), (73, .bool false)]) (by (try simp only [hb76]); kernel_rfl) ?_
                        refine OpsT.pures (r := []) [44, 45, 46, 47, 48, 49, 50, 51, 52, 53, 54] [0] (S' := [(0, .bool false)]) (by kernel_rfl) ?_
                        refine OpsT.done ?_
                        have hI := hI.drop
                        have hI := hI.drop
                        have hI := hI.drop
                        have e := someS h1
                        subst e
                        exact Qn.thenJ fun a ha => ⟨false, Z74, rfl, ha.keep [0] (by kernel_rfl), hI, hle75⟩
                    · rw [if_neg hb63] at h1
                      have hb63 : y62 = false := by simpa using hb63
                      refine OpsT.keep [4, 67] (S' := [(4, .pointer (some ⟨b43, 0, none⟩)), (67, .bool false)]) (by (try simp only [hb63]); kernel_rfl) ?_
                      refine OpsT.pures (r := []) [38, 39, 40, 41, 42, 43, 44, 45, 46, 47, 48, 49, 50, 51, 52, 53, 54] [0] (S' := [(0, .bool false)]) (by kernel_rfl) ?_
                      refine OpsT.done ?_
                      have hI := hI.drop
                      have hI := hI.drop
                      have hI := hI.drop
                      have e := someS h1
                      subst e
                      exact Qn.thenJ fun a ha => ⟨false, Z41, rfl, ha.keep [0] (by kernel_rfl), hI, (Hp.le_refl _)⟩
                  · rw [if_neg hb60] at h1
                    have hb60 : y59 = false := by simpa using hb60
                    refine OpsT.keep [4, 62] (S' := [(4, .pointer (some ⟨b43, 0, none⟩)), (62, .bool false)]) (by (try simp only [hb60]); kernel_rfl) ?_
                    refine OpsT.pures (r := []) [33, 34, 35, 36, 37, 38, 39, 40, 41, 42, 43, 44, 45, 46, 47, 48, 49, 50, 51, 52, 53, 54] [0] (S' := [(0, .bool false)]) (by kernel_rfl) ?_
                    refine OpsT.done ?_
                    have hI := hI.drop
                    have hI := hI.drop
                    have hI := hI.drop
                    have e := someS h1
                    subst e
                    exact Qn.thenJ fun a ha => ⟨false, Z41, rfl, ha.keep [0] (by kernel_rfl), hI, (Hp.le_refl _)⟩
                · rw [if_neg hb57] at h1
                  have hb57 : (y47 == 0) = false := by simpa using hb57
                  refine OpsT.keep [4, 58] (S' := [(4, .pointer (some ⟨b43, 0, none⟩)), (58, .bool false)]) (by (try simp only [hb57]); kernel_rfl) ?_
                  refine OpsT.pures (r := []) [29, 30, 31, 32, 33, 34, 35, 36, 37, 38, 39, 40, 41, 42, 43, 44, 45, 46, 47, 48, 49, 50, 51, 52, 53, 54] [0] (S' := [(0, .bool false)]) (by kernel_rfl) ?_
                  refine OpsT.done ?_
                  have hI := hI.drop
                  have hI := hI.drop
                  have hI := hI.drop
                  have e := someS h1
                  subst e
                  exact Qn.thenJ fun a ha => ⟨false, Z41, rfl, ha.keep [0] (by kernel_rfl), hI, (Hp.le_refl _)⟩
              · rw [if_neg hb56] at h1
                have hb56 : (seq y46 (⟨#[98, 99]⟩ : ByteArray)) = false := by simpa using hb56
                refine OpsT.keep [4, 8, 54] (S' := [(4, .pointer (some ⟨b43, 0, none⟩)), (8, .int .i64 y47), (54, .bool false)]) (by (try simp only [hb56]); kernel_rfl) ?_
                refine OpsT.pures (r := []) [25, 26, 27, 28, 29, 30, 31, 32, 33, 34, 35, 36, 37, 38, 39, 40, 41, 42, 43, 44, 45, 46, 47, 48, 49, 50, 51, 52, 53, 54] [0] (S' := [(0, .bool false)]) (by kernel_rfl) ?_
                refine OpsT.done ?_
                have hI := hI.drop
                have hI := hI.drop
                have hI := hI.drop
                have e := someS h1
                subst e
                exact Qn.thenJ fun a ha => ⟨false, Z41, rfl, ha.keep [0] (by kernel_rfl), hI, (Hp.le_refl _)⟩
            · rw [if_neg hb55] at h1
              have hb55 : (eq_ApiEvent y38 (ApiEvent.mk 1 1 (⟨#[]⟩ : ByteArray) 0 1 (List.replicate 32 (0 : Int)))) = false := by simpa using hb55
              refine OpsT.keep [4, 7, 8, 50] (S' := [(4, .pointer (some ⟨b43, 0, none⟩)), (7, .string y46), (8, .int .i64 y47), (50, .bool false)]) (by (try simp only [hb55]); kernel_rfl) ?_
              refine OpsT.pures (r := []) [21, 22, 23, 24, 25, 26, 27, 28, 29, 30, 31, 32, 33, 34, 35, 36, 37, 38, 39, 40, 41, 42, 43, 44, 45, 46, 47, 48, 49, 50, 51, 52, 53, 54] [0] (S' := [(0, .bool false)]) (by kernel_rfl) ?_
              refine OpsT.done ?_
              have hI := hI.drop
              have hI := hI.drop
              have hI := hI.drop
              have e := someS h1
              subst e
              exact Qn.thenJ fun a ha => ⟨false, Z41, rfl, ha.keep [0] (by kernel_rfl), hI, (Hp.le_refl _)⟩
          · rw [if_neg hb54] at h1
            have hb54 : (seq y31 (⟨#[97, 98, 99]⟩ : ByteArray)) = false := by simpa using hb54
            refine OpsT.keep [4, 5, 7, 8, 45] (S' := [(4, .pointer (some ⟨b43, 0, none⟩)), (5, .pointer (some ⟨b44, 0, none⟩)), (7, .string y46), (8, .int .i64 y47), (45, .bool false)]) (by (try simp only [hb54]); kernel_rfl) ?_
            refine OpsT.pures (r := []) [16, 17, 18, 19, 20, 21, 22, 23, 24, 25, 26, 27, 28, 29, 30, 31, 32, 33, 34, 35, 36, 37, 38, 39, 40, 41, 42, 43, 44, 45, 46, 47, 48, 49, 50, 51, 52, 53, 54] [0] (S' := [(0, .bool false)]) (by kernel_rfl) ?_
            refine OpsT.done ?_
            have hI := hI.drop
            have hI := hI.drop
            have hI := hI.drop
            have e := someS h1
            subst e
            exact Qn.thenJ fun a ha => ⟨false, Z41, rfl, ha.keep [0] (by kernel_rfl), hI, (Hp.le_refl _)⟩
        · rw [if_neg hb53] at h1
          have hb53 : (y40 == 0) = false := by simpa using hb53
          refine OpsT.keep [4, 5, 7, 8, 40] (S' := [(4, .pointer (some ⟨b43, 0, none⟩)), (5, .pointer (some ⟨b44, 0, none⟩)), (7, .string y46), (8, .int .i64 y47), (40, .bool false)]) (by (try simp only [hb53]); kernel_rfl) ?_
          refine OpsT.pures (r := []) [11, 12, 13, 14, 15, 16, 17, 18, 19, 20, 21, 22, 23, 24, 25, 26, 27, 28, 29, 30, 31, 32, 33, 34, 35, 36, 37, 38, 39, 40, 41, 42, 43, 44, 45, 46, 47, 48, 49, 50, 51, 52, 53, 54] [0] (S' := [(0, .bool false)]) (by kernel_rfl) ?_
          refine OpsT.done ?_
          have hI := hI.drop
          have hI := hI.drop
          have hI := hI.drop
          have e := someS h1
          subst e
          exact Qn.thenJ fun a ha => ⟨false, Z41, rfl, ha.keep [0] (by kernel_rfl), hI, (Hp.le_refl _)⟩
      · rw [if_neg hb52] at h1
        have hb52 : (y25 == 0) = false := by simpa using hb52
        refine OpsT.keep [4, 5, 6, 7, 8, 36] (S' := [(4, .pointer (some ⟨b43, 0, none⟩)), (5, .pointer (some ⟨b44, 0, none⟩)), (6, .int .i64 y40), (7, .string y46), (8, .int .i64 y47), (36, .bool false)]) (by (try simp only [hb52]); kernel_rfl) ?_
        refine OpsT.pures (r := []) [7, 8, 9, 10, 11, 12, 13, 14, 15, 16, 17, 18, 19, 20, 21, 22, 23, 24, 25, 26, 27, 28, 29, 30, 31, 32, 33, 34, 35, 36, 37, 38, 39, 40, 41, 42, 43, 44, 45, 46, 47, 48, 49, 50, 51, 52, 53, 54] [0] (S' := [(0, .bool false)]) (by kernel_rfl) ?_
        refine OpsT.done ?_
        have hI := hI.drop
        have hI := hI.drop
        have hI := hI.drop
        have e := someS h1
        subst e
        exact Qn.thenJ fun a ha => ⟨false, Z41, rfl, ha.keep [0] (by kernel_rfl), hI, (Hp.le_refl _)⟩
    · rw [if_neg hb51] at h1
      have hb51 : (y10 == 0) = false := by simpa using hb51
      refine OpsT.keep [3, 4, 5, 6, 7, 8, 32] (S' := [(3, .int .i64 y25), (4, .pointer (some ⟨b43, 0, none⟩)), (5, .pointer (some ⟨b44, 0, none⟩)), (6, .int .i64 y40), (7, .string y46), (8, .int .i64 y47), (32, .bool false)]) (by (try simp only [hb51]); kernel_rfl) ?_
      refine OpsT.pures (r := []) [3, 4, 5, 6, 7, 8, 9, 10, 11, 12, 13, 14, 15, 16, 17, 18, 19, 20, 21, 22, 23, 24, 25, 26, 27, 28, 29, 30, 31, 32, 33, 34, 35, 36, 37, 38, 39, 40, 41, 42, 43, 44, 45, 46, 47, 48, 49, 50, 51, 52, 53, 54] [0] (S' := [(0, .bool false)]) (by kernel_rfl) ?_
      refine OpsT.done ?_
      have hI := hI.drop
      have hI := hI.drop
      have hI := hI.drop
      have e := someS h1
      subst e
      exact Qn.thenJ fun a ha => ⟨false, Z41, rfl, ha.keep [0] (by kernel_rfl), hI, (Hp.le_refl _)⟩
  ·
    rintro a w ⟨x50, Z48, rfl, ha, hI, hle49⟩
    try dsimp only at h0
    refine CodT.of ?_ ha
    refine CodT.ret ?_
    have e := someS h0
    subst e
    refine Qn.keep [0] (S' := [(0, .bool x50)]) (by kernel_rfl) ?_
    exact post_ret (v := .bool x50) (fun a ha => RunRes.run (vs := [.bool x50]) (.tmp (t := 0) (by kernel_rfl) .nil) ha (by kernel_rfl)) ⟨rfl, hI.weaken (Hp.le_trans (Hp.le_trans (Hp.le_trans hle13 hle27) hle42) hle49)⟩
set_option maxRecDepth 100000 in
set_option maxHeartbeats 4000000 in
/-- cenotaph/cenotaphlaw07.Few -/
theorem c10 (w0 w : World) (Z : Hp) (A : HP) (hI : Inv w0 Z w A) (hT : Tabs Z) (a0_ID : Int) (a0_Name : ByteArray) (a0_Data : ByteArray) (a0_Sealed : Bool) (a0_Until : Int) (A_a0_Holds : Option Addr) (c_a0_Holds : Nat) (a0_Holds : (List ByteArray)) (hr_a0_Holds : RdS Z cS 1 A_a0_Holds c_a0_Holds a0_Holds) (r : Bool) (h0 : law07_Few a0_ID a0_Name a0_Data a0_Sealed a0_Until a0_Holds = some r) :
    Calls prog 10 #[.agg ((([.int .i64 a0_ID, .string a0_Name, .string a0_Data, .bool a0_Sealed, .int .i64 a0_Until, .slice A_a0_Holds a0_Holds.length c_a0_Holds] : List Value))).toArray] w (fun e w' => e = .returned (.bool r) ∧ Inv w0 Z w' A) := by
  have e4 := calls_intro (R := (fun e w' => e = .returned (.bool r) ∧ Inv w0 Z w' A)) (w := w) (args := [.agg ((([.int .i64 a0_ID, .string a0_Name, .string a0_Data, .bool a0_Sealed, .int .i64 a0_Until, .slice A_a0_Holds a0_Holds.length c_a0_Holds] : List Value))).toArray]) (fn := Go.Proofs.Tryd.f10) 38 Go.Proofs.Tryd.func10 (by rfl) Go.Proofs.Tryd.ntmps10 (by kernel_rfl)
  refine e4 ?_
  clear e4
  unfold law07_Few at h0
  refine CodT.seq ?_
  refine CodT.regionL [0, 1] (by kernel_rfl) ?_
  refine OpsT.cons (Does.boxL (d := 1) (T := 24) (v := .agg ((([.int .i64 a0_ID, .string a0_Name, .string a0_Data, .bool a0_Sealed, .int .i64 a0_Until, .slice A_a0_Holds a0_Holds.length c_a0_Holds] : List Value))).toArray) ((([.int .i64 a0_ID, .string a0_Name, .string a0_Data, .bool a0_Sealed, .int .i64 a0_Until, .slice A_a0_Holds a0_Holds.length c_a0_Holds] : List Value))) (by kernel_rfl) hI (by kernel_rfl) ?_)
  intro b1 w hI
  refine OpsT.pures (r := []) [1] [1] (S' := [(1, .pointer (some ⟨b1, 0, none⟩))]) (by kernel_rfl) ?_
  refine OpsT.done ?_
  refine Qn.then ?_
  refine CodT.seq ?_
  refine CodT.seq ?_
  refine CodT.regionL [0] (by kernel_rfl) ?_
  refine OpsT.pures (r := []) [0] [1, 3] (S' := [(1, .pointer (some ⟨b1, 0, none⟩)), (3, .int .i64 0)]) (by kernel_rfl) ?_
  refine OpsT.done ?_
  refine Qn.then ?_
  obtain ⟨r1, h1, h0⟩ := bindS h0
  refine CodT.meet1 (fun a w => .inr () = r1 ∧ Fr 38 [(1, .pointer (some ⟨b1, 0, none⟩))] a ∧ Inv w0 Z w (star (pt b1 (.cells ((([.int .i64 a0_ID, .string a0_Name, .string a0_Data, .bool a0_Sealed, .int .i64 a0_Until, .slice A_a0_Holds a0_Holds.length c_a0_Holds] : List Value))).toArray 24 (0, 0))) A)) ?_ ?_
  ·
    refine CodT.block ?_
    refine (fun a ha => wp_loopN (fun k a w => ∃ (x2 : Int), law07_Few.l0 a0_Holds k x2 = some r1 ∧ Fr 38 [(1, .pointer (some ⟨b1, 0, none⟩)), (3, .int .i64 x2)] a ∧ Inv w0 Z w (star (pt b1 (.cells ((([.int .i64 a0_ID, .string a0_Name, .string a0_Data, .bool a0_Sealed, .int .i64 a0_Until, .slice A_a0_Holds a0_Holds.length c_a0_Holds] : List Value))).toArray 24 (0, 0))) A)) ?_ FU a w ⟨0, h1, ha.keep [1, 3] (by kernel_rfl), hI⟩)
    clear h1 hI
    rintro k a w ⟨x2, h1, ha, hI⟩
    rcases k with _ | k
    · cases h1
    simp only [law07_Few.l0] at h1
    refine CodT.of ?_ ha
    refine CodT.seq ?_
    obtain ⟨r2, h2, h1⟩ := bindS h1
    refine CodT.meet (fun a w => ∃ (x3 : Bool), x3 = r2 ∧ Fr 38 [(1, .pointer (some ⟨b1, 0, none⟩)), (3, .int .i64 x2), (12, .bool x3)] a ∧ Inv w0 Z w (star (pt b1 (.cells ((([.int .i64 a0_ID, .string a0_Name, .string a0_Data, .bool a0_Sealed, .int .i64 a0_Until, .slice A_a0_Holds a0_Holds.length c_a0_Holds] : List Value))).toArray 24 (0, 0))) A)) ?_ ?_
    ·
      refine CodT.regionL [0, 1, 2, 3, 4, 5, 6, 7, 8] (by kernel_rfl) ?_
      refine OpsT.pures (r := [2, 3, 4, 5, 6, 7, 8]) [0, 1] [1, 3, 4, 5] (S' := [(1, .pointer (some ⟨b1, 0, none⟩)), (3, .int .i64 x2), (4, .int .i64 x2), (5, .pointer (some ⟨b1, 5, none⟩))]) (by kernel_rfl) ?_
      refine OpsT.cons (Does.yi (Yl.load (d := 6) (T := 22) (v := .slice A_a0_Holds a0_Holds.length c_a0_Holds) (by kernel_rfl) (ldB ty22 (l := (([.int .i64 a0_ID, .string a0_Name, .string a0_Data, .bool a0_Sealed, .int .i64 a0_Until, .slice A_a0_Holds a0_Holds.length c_a0_Holds] : List Value))) (o := 5) (v := .slice A_a0_Holds a0_Holds.length c_a0_Holds) (ent_refl _) (by kernel_rfl))) hI ?_)
      refine OpsT.pures (r := [6, 7, 8]) [3, 4, 5] [1, 3, 9] (S' := [(1, .pointer (some ⟨b1, 0, none⟩)), (3, .int .i64 x2), (9, .bool (decide (x2 < (a0_Holds.length : Int))))]) (by kernel_rfl) ?_
      by_cases hb4 : (decide (x2 < (a0_Holds.length : Int))) = true
      · rw [if_pos hb4] at h2
        refine OpsT.keep [1, 3, 9] (S' := [(1, .pointer (some ⟨b1, 0, none⟩)), (3, .int .i64 x2), (9, .bool true)]) (by (try simp only [hb4]); kernel_rfl) ?_
        refine OpsT.pures (r := []) [6, 7, 8] [1, 3, 12] (S' := [(1, .pointer (some ⟨b1, 0, none⟩)), (3, .int .i64 x2), (12, .bool (decide (x2 ≤ 200)))]) (by kernel_rfl) ?_
        refine OpsT.done ?_
        have e := someS h2
        subst e
        exact Qn.thenJ fun a ha => ⟨decide (x2 ≤ 200), rfl, ha.keep [1, 3, 12] (by kernel_rfl), hI⟩
      · rw [if_neg hb4] at h2
        have hb4 : (decide (x2 < (a0_Holds.length : Int))) = false := by simpa using hb4
        refine OpsT.keep [1, 3, 9] (S' := [(1, .pointer (some ⟨b1, 0, none⟩)), (3, .int .i64 x2), (9, .bool false)]) (by (try simp only [hb4]); kernel_rfl) ?_
        refine OpsT.pures (r := []) [6, 7, 8] [1, 3, 12] (S' := [(1, .pointer (some ⟨b1, 0, none⟩)), (3, .int .i64 x2), (12, .bool false)]) (by kernel_rfl) ?_
        refine OpsT.done ?_
        have e := someS h2
        subst e
        exact Qn.thenJ fun a ha => ⟨false, rfl, ha.keep [1, 3, 12] (by kernel_rfl), hI⟩
    ·
      rintro a w ⟨x3, rfl, ha, hI⟩
      try dsimp only at h1
      refine CodT.of ?_ ha
      by_cases hb5 : x3 = true
      · rw [if_pos hb5] at h1
        refine CodT.yes' (b := x3) (by kernel_rfl) hb5 ?_
        refine CodT.skip ?_
        refine Qn.then ?_
        refine CodT.seq ?_
        refine CodT.block ?_
        refine CodT.seq ?_
        refine CodT.regionL [0, 1, 2, 3, 4, 5, 6] (by kernel_rfl) ?_
        refine OpsT.pures (r := [1, 2, 3, 4, 5, 6]) [0] [1, 3, 15] (S' := [(1, .pointer (some ⟨b1, 0, none⟩)), (3, .int .i64 x2), (15, .pointer (some ⟨b1, 5, none⟩))]) (by kernel_rfl) ?_
        refine OpsT.cons (Does.yi (Yl.load (d := 16) (T := 22) (v := .slice A_a0_Holds a0_Holds.length c_a0_Holds) (by kernel_rfl) (ldB ty22 (l := (([.int .i64 a0_ID, .string a0_Name, .string a0_Data, .bool a0_Sealed, .int .i64 a0_Until, .slice A_a0_Holds a0_Holds.length c_a0_Holds] : List Value))) (o := 5) (v := .slice A_a0_Holds a0_Holds.length c_a0_Holds) (ent_refl _) (by kernel_rfl))) hI ?_)
        refine OpsT.pures (r := [3, 4, 5, 6]) [2] [1, 3, 16, 17] (S' := [(1, .pointer (some ⟨b1, 0, none⟩)), (3, .int .i64 x2), (16, .slice A_a0_Holds a0_Holds.length c_a0_Holds), (17, .int .i64 x2)]) (by kernel_rfl) ?_
        obtain ⟨hg6, h1⟩ := guardS h1
        obtain ⟨g7, o11, hA8, hr9, hl10⟩ := RdS.get hr_a0_Holds hg6.1 hg6.2
        refine OpsT.cons (Does.yi (Yl.indexSlice (d := 18) (T := 22) (cc := c_a0_Holds) (k := .i64) (j := x2) (g := g7) (o := o11) (by kernel_rfl) Go.Proofs.Tryd.underlying22 ty9 hA8 hg6.1 hg6.2) hI ?_)
        refine OpsT.cons (Does.yi (Yl.load (d := 19) (T := 9) (v := .string (gt a0_Holds x2)) (by kernel_rfl) (ldR ty9 (v := .string (gt a0_Holds x2)) 0 (fun w hC => hr9 w0 w _ hC) (by kernel_rfl))) hI ?_)
        refine OpsT.pures (r := []) [5, 6] [1, 3, 21] (S' := [(1, .pointer (some ⟨b1, 0, none⟩)), (3, .int .i64 x2), (21, .bool (decide (((gt a0_Holds x2).size : Int) > 200)))]) (by kernel_rfl) ?_
        refine OpsT.done ?_
        refine Qn.then ?_
        by_cases hb12 : (decide (((gt a0_Holds x2).size : Int) > 200)) = true
        · rw [if_pos hb12] at h1
          refine CodT.yes' (b := decide (((gt a0_Holds x2).size : Int) > 200)) (by kernel_rfl) hb12 ?_
          refine CodT.seq ?_
          refine CodT.regionL [0] (by kernel_rfl) ?_
          refine OpsT.pures (r := []) [0] [2] (S' := [(2, .bool false)]) (by kernel_rfl) ?_
          refine OpsT.done ?_
          refine Qn.then ?_
          refine CodT.ret ?_
          refine Qn.block_ret ?_
          refine Qn.ret_then ?_
          refine Qn.ret_then ?_
          refine Qn.block_ret ?_
          refine Qn.ret_then ?_
          refine Qn.ret_then ?_
          have hI := hI.drop
          have e := someS h1
          subst e
          try dsimp only at h0
          have e := someS h0
          subst e
          refine Qn.keep [2] (S' := [(2, .bool false)]) (by kernel_rfl) ?_
          exact post_ret (v := .bool false) (fun a ha => RunRes.run (vs := [.bool false]) (.tmp (t := 2) (by kernel_rfl) .nil) ha (by kernel_rfl)) ⟨rfl, hI⟩
        · rw [if_neg hb12] at h1
          refine CodT.no' (b := decide (((gt a0_Holds x2).size : Int) > 200)) (by kernel_rfl) (by simpa using hb12) ?_
          refine CodT.skip ?_
          refine Qn.block_normal ?_
          refine Qn.then ?_
          refine CodT.regionL [0, 1, 2] (by kernel_rfl) ?_
          refine OpsT.pures (r := []) [0, 1, 2] [1, 3] (S' := [(1, .pointer (some ⟨b1, 0, none⟩)), (3, .int .i64 (wi64 (x2 + 1)))]) (by kernel_rfl) ?_
          refine OpsT.done ?_
          exact Qn.thenJ fun a ha => ⟨k, Nat.lt_succ_self k, wi64 (x2 + 1), h1, ha.keep [1, 3] (by kernel_rfl), hI⟩
      · rw [if_neg hb5] at h1
        refine CodT.no' (b := x3) (by kernel_rfl) (by simpa using hb5) ?_
        refine CodT.exit ?_
        refine Qn.exit_then ?_
        refine Qn.exit_then ?_
        refine Qn.block ?_
        have e := someS h1
        subst e
        exact Qn.thenJ fun a ha => ⟨rfl, ha.keep [1] (by kernel_rfl), hI⟩
  ·
    rintro a w ⟨rfl, ha, hI⟩
    try dsimp only at h0
    refine Qn.of ?_ ha
    refine Qn.then ?_
    obtain ⟨r1, h1, h0⟩ := bindS h0
    refine CodT.meet (fun a w => ∃ (x13 : Bool), x13 = r1 ∧ Fr 38 [(2, .bool x13)] a ∧ Inv w0 Z w A) ?_ ?_
    ·
      refine CodT.regionL [0, 1, 2, 3, 4, 5, 6, 7, 8, 9, 10, 11, 12, 13, 14, 15, 16] (by kernel_rfl) ?_
      refine OpsT.pures (r := [1, 2, 3, 4, 5, 6, 7, 8, 9, 10, 11, 12, 13, 14, 15, 16]) [0] [1, 22] (S' := [(1, .pointer (some ⟨b1, 0, none⟩)), (22, .pointer (some ⟨b1, 5, none⟩))]) (by kernel_rfl) ?_
      refine OpsT.cons (Does.yi (Yl.load (d := 23) (T := 22) (v := .slice A_a0_Holds a0_Holds.length c_a0_Holds) (by kernel_rfl) (ldB ty22 (l := (([.int .i64 a0_ID, .string a0_Name, .string a0_Data, .bool a0_Sealed, .int .i64 a0_Until, .slice A_a0_Holds a0_Holds.length c_a0_Holds] : List Value))) (o := 5) (v := .slice A_a0_Holds a0_Holds.length c_a0_Holds) (ent_refl _) (by kernel_rfl))) hI ?_)
      refine OpsT.pures (r := [5, 6, 7, 8, 9, 10, 11, 12, 13, 14, 15, 16]) [2, 3, 4] [1, 26] (S' := [(1, .pointer (some ⟨b1, 0, none⟩)), (26, .bool (decide ((a0_Holds.length : Int) ≤ 200)))]) (by kernel_rfl) ?_
      by_cases hb14 : (decide ((a0_Holds.length : Int) ≤ 200)) = true
      · rw [if_pos hb14] at h1
        refine OpsT.keep [1, 26] (S' := [(1, .pointer (some ⟨b1, 0, none⟩)), (26, .bool true)]) (by (try simp only [hb14]); kernel_rfl) ?_
        refine OpsT.pures (r := [6, 7, 8, 9, 10, 11, 12, 13, 14, 15, 16]) [5] [1, 26, 27] (S' := [(1, .pointer (some ⟨b1, 0, none⟩)), (26, .bool true), (27, .pointer (some ⟨b1, 2, none⟩))]) (by kernel_rfl) ?_
        refine OpsT.cons (Does.yi (Yl.load (d := 28) (T := 9) (v := .string a0_Data) (by kernel_rfl) (ldB ty9 (l := (([.int .i64 a0_ID, .string a0_Name, .string a0_Data, .bool a0_Sealed, .int .i64 a0_Until, .slice A_a0_Holds a0_Holds.length c_a0_Holds] : List Value))) (o := 2) (v := .string a0_Data) (ent_refl _) (by kernel_rfl))) hI ?_)
        refine OpsT.pures (r := [11, 12, 13, 14, 15, 16]) [7, 8, 9, 10] [1, 32] (S' := [(1, .pointer (some ⟨b1, 0, none⟩)), (32, .bool (decide ((a0_Data.size : Int) ≤ 2000)))]) (by kernel_rfl) ?_
        by_cases hb15 : (decide ((a0_Data.size : Int) ≤ 2000)) = true
        · rw [if_pos hb15] at h1
          refine OpsT.keep [1, 32] (S' := [(1, .pointer (some ⟨b1, 0, none⟩)), (32, .bool true)]) (by (try simp only [hb15]); kernel_rfl) ?_
          refine OpsT.pures (r := [12, 13, 14, 15, 16]) [11] [32, 33] (S' := [(32, .bool true), (33, .pointer (some ⟨b1, 1, none⟩))]) (by kernel_rfl) ?_
          refine OpsT.cons (Does.yi (Yl.load (d := 34) (T := 9) (v := .string a0_Name) (by kernel_rfl) (ldB ty9 (l := (([.int .i64 a0_ID, .string a0_Name, .string a0_Data, .bool a0_Sealed, .int .i64 a0_Until, .slice A_a0_Holds a0_Holds.length c_a0_Holds] : List Value))) (o := 1) (v := .string a0_Name) (ent_refl _) (by kernel_rfl))) hI ?_)
          refine OpsT.pures (r := []) [13, 14, 15, 16] [2] (S' := [(2, .bool (decide ((a0_Name.size : Int) ≤ 200)))]) (by kernel_rfl) ?_
          refine OpsT.done ?_
          have hI := hI.drop
          have e := someS h1
          subst e
          exact Qn.thenJ fun a ha => ⟨decide ((a0_Name.size : Int) ≤ 200), rfl, ha.keep [2] (by kernel_rfl), hI⟩
        · rw [if_neg hb15] at h1
          have hb15 : (decide ((a0_Data.size : Int) ≤ 2000)) = false := by simpa using hb15
          refine OpsT.keep [1, 32] (S' := [(1, .pointer (some ⟨b1, 0, none⟩)), (32, .bool false)]) (by (try simp only [hb15]); kernel_rfl) ?_
          refine OpsT.pures (r := []) [11, 12, 13, 14, 15, 16] [2] (S' := [(2, .bool false)]) (by kernel_rfl) ?_
          refine OpsT.done ?_
          have hI := hI.drop
          have e := someS h1
          subst e
          exact Qn.thenJ fun a ha => ⟨false, rfl, ha.keep [2] (by kernel_rfl), hI⟩
      · rw [if_neg hb14] at h1
        have hb14 : (decide ((a0_Holds.length : Int) ≤ 200)) = false := by simpa using hb14
        refine OpsT.keep [1, 26] (S' := [(1, .pointer (some ⟨b1, 0, none⟩)), (26, .bool false)]) (by (try simp only [hb14]); kernel_rfl) ?_
        refine OpsT.pures (r := []) [5, 6, 7, 8, 9, 10, 11, 12, 13, 14, 15, 16] [2] (S' := [(2, .bool false)]) (by kernel_rfl) ?_
        refine OpsT.done ?_
        have hI := hI.drop
        have e := someS h1
        subst e
        exact Qn.thenJ fun a ha => ⟨false, rfl, ha.keep [2] (by kernel_rfl), hI⟩
    ·
      rintro a w ⟨x13, rfl, ha, hI⟩
      try dsimp only at h0
      refine CodT.of ?_ ha
      refine CodT.ret ?_
      have e := someS h0
      subst e
      refine Qn.keep [2] (S' := [(2, .bool x13)]) (by kernel_rfl) ?_
      exact post_ret (v := .bool x13) (fun a ha => RunRes.run (vs := [.bool x13]) (.tmp (t := 2) (by kernel_rfl) .nil) ha (by kernel_rfl)) ⟨rfl, hI⟩
end Go.Cen
