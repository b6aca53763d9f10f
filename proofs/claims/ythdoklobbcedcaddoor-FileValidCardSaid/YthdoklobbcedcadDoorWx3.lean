/- That the machine computes these: walks, printed by a program of ours. -/
import Derived.Test.YthdoklobbcedcadDoorPx
import Derived.Test.YthdoklobbcedcadDoorWx2
set_option linter.unusedVariables false
set_option linter.unusedSimpArgs false
namespace Go.Cen
set_option maxRecDepth 100000 in
set_option maxHeartbeats 4000000 in
/-- cenotaph/file.Meta -/
theorem c19 (w0 w : World) (Z : Hp) (A : HP) (hI : Inv w0 Z w A) (hT : Tabs Z) (a0_ID : Int) (a0_Name : ByteArray) (a0_Data : ByteArray) (a0_Sealed : Bool) (a0_Until : Int) (A_a0_Holds : Option Addr) (c_a0_Holds : Nat) (a0_Holds : (List ByteArray)) (hr_a0_Holds : RdS Z cS 1 A_a0_Holds c_a0_Holds a0_Holds) (r : (Int × ByteArray × ByteArray × Bool × Int × (List ByteArray))) (h0 : file_Meta a0_ID a0_Name a0_Data a0_Sealed a0_Until a0_Holds = some r) :
    Calls prog 19 #[.agg ((([.int .i64 a0_ID, .string a0_Name, .string a0_Data, .bool a0_Sealed, .int .i64 a0_Until, .slice A_a0_Holds a0_Holds.length c_a0_Holds] : List Value))).toArray] w (fun e w' => ∃ (A1 : Option Addr) (c1 : Nat) (Z' : Hp), Z.le Z' ∧ e = .returned (.agg ((([.int .i64 r.1, .string r.2.1, .string r.2.2.1, .bool r.2.2.2.1, .int .i64 r.2.2.2.2.1, .slice A1 r.2.2.2.2.2.length c1] : List Value))).toArray) ∧ RdS Z' cS 1 A1 c1 r.2.2.2.2.2 ∧ Inv w0 Z' w' A) := by
  have e4 := calls_intro (R := (fun e w' => ∃ (A1 : Option Addr) (c1 : Nat) (Z' : Hp), Z.le Z' ∧ e = .returned (.agg ((([.int .i64 r.1, .string r.2.1, .string r.2.2.1, .bool r.2.2.2.1, .int .i64 r.2.2.2.2.1, .slice A1 r.2.2.2.2.2.length c1] : List Value))).toArray) ∧ RdS Z' cS 1 A1 c1 r.2.2.2.2.2 ∧ Inv w0 Z' w' A)) (w := w) (args := [.agg ((([.int .i64 a0_ID, .string a0_Name, .string a0_Data, .bool a0_Sealed, .int .i64 a0_Until, .slice A_a0_Holds a0_Holds.length c_a0_Holds] : List Value))).toArray]) (fn := Go.Proofs.Tryd.f19) 5 Go.Proofs.Tryd.func19 (by rfl) Go.Proofs.Tryd.ntmps19 (by kernel_rfl)
  refine e4 ?_
  clear e4
  unfold file_Meta at h0
  refine CodT.seq ?_
  refine CodT.regionL [0, 1] (by kernel_rfl) ?_
  refine OpsT.cons (Does.boxL (d := 1) (T := 24) (v := .agg ((([.int .i64 a0_ID, .string a0_Name, .string a0_Data, .bool a0_Sealed, .int .i64 a0_Until, .slice A_a0_Holds a0_Holds.length c_a0_Holds] : List Value))).toArray) ((([.int .i64 a0_ID, .string a0_Name, .string a0_Data, .bool a0_Sealed, .int .i64 a0_Until, .slice A_a0_Holds a0_Holds.length c_a0_Holds] : List Value))) (by kernel_rfl) hI (by kernel_rfl) ?_)
  intro b1 w hI
  refine OpsT.cons (Does.allocL (d := 2) (T := 24) ((([.int .i64 0, .string (⟨#[]⟩ : ByteArray), .string (⟨#[]⟩ : ByteArray), .bool false, .int .i64 0, .slice none 0 0] : List Value))) (by kernel_rfl) ty24 hI (by kernel_rfl) ?_)
  intro b2 w hI
  refine OpsT.done ?_
  refine Qn.then ?_
  refine CodT.seq ?_
  refine CodT.regionL [0, 1] (by kernel_rfl) ?_
  refine OpsT.pures (r := [1]) [0] [1, 2, 3] (S' := [(1, .pointer (some ⟨b1, 0, none⟩)), (2, .pointer (some ⟨b2, 0, none⟩)), (3, .pointer (some ⟨b1, 2, none⟩))]) (by kernel_rfl) ?_
  have hI := hI.mono (pick2 _ _ _)
  refine OpsT.cons (Does.storeLit (T := 9) (b := b1) (o := 2) (v := .string (⟨#[]⟩ : ByteArray)) (l := (([.int .i64 a0_ID, .string a0_Name, .string a0_Data, .bool a0_Sealed, .int .i64 a0_Until, .slice A_a0_Holds a0_Holds.length c_a0_Holds] : List Value))) (vs := ([.string (⟨#[]⟩ : ByteArray)] : List Value)) (L' := (([.int .i64 a0_ID, .string a0_Name, .string (⟨#[]⟩ : ByteArray), .bool a0_Sealed, .int .i64 a0_Until, .slice A_a0_Holds a0_Holds.length c_a0_Holds] : List Value))) (by kernel_rfl) ty9 hI (by kernel_rfl) (by kernel_rfl) (by kernel_rfl) (by kernel_rfl) (by kernel_rfl) ?_)
  intro w hI
  refine OpsT.done ?_
  refine Qn.then ?_
  refine CodT.seq ?_
  refine CodT.regionL [0, 1] (by kernel_rfl) ?_
  refine OpsT.cons (Does.yi (Yl.load (d := 4) (T := 24) (v := .agg ((([.int .i64 a0_ID, .string a0_Name, .string (⟨#[]⟩ : ByteArray), .bool a0_Sealed, .int .i64 a0_Until, .slice A_a0_Holds a0_Holds.length c_a0_Holds] : List Value))).toArray) (by kernel_rfl) (ldBN ty24 (l := (([.int .i64 a0_ID, .string a0_Name, .string (⟨#[]⟩ : ByteArray), .bool a0_Sealed, .int .i64 a0_Until, .slice A_a0_Holds a0_Holds.length c_a0_Holds] : List Value))) (o := 0) (cs := (([.int .i64 a0_ID, .string a0_Name, .string (⟨#[]⟩ : ByteArray), .bool a0_Sealed, .int .i64 a0_Until, .slice A_a0_Holds a0_Holds.length c_a0_Holds] : List Value))) (ent_refl _) (by kernel_rfl) (whole _ _ (by kernel_rfl)))) hI ?_)
  have hI := hI.mono (pick2 _ _ _)
  refine OpsT.cons (Does.storeLit (T := 24) (b := b2) (o := 0) (v := .agg ((([.int .i64 a0_ID, .string a0_Name, .string (⟨#[]⟩ : ByteArray), .bool a0_Sealed, .int .i64 a0_Until, .slice A_a0_Holds a0_Holds.length c_a0_Holds] : List Value))).toArray) (l := (([.int .i64 0, .string (⟨#[]⟩ : ByteArray), .string (⟨#[]⟩ : ByteArray), .bool false, .int .i64 0, .slice none 0 0] : List Value))) (vs := (([.int .i64 a0_ID, .string a0_Name, .string (⟨#[]⟩ : ByteArray), .bool a0_Sealed, .int .i64 a0_Until, .slice A_a0_Holds a0_Holds.length c_a0_Holds] : List Value))) (L' := (([.int .i64 a0_ID, .string a0_Name, .string (⟨#[]⟩ : ByteArray), .bool a0_Sealed, .int .i64 a0_Until, .slice A_a0_Holds a0_Holds.length c_a0_Holds] : List Value))) (by kernel_rfl) ty24 hI (by kernel_rfl) (by kernel_rfl) (by kernel_rfl) (by kernel_rfl) (by kernel_rfl) ?_)
  intro w hI
  refine OpsT.done ?_
  refine Qn.then ?_
  refine CodT.ret ?_
  have hL3 := (ldBN ty24 (l := (([.int .i64 a0_ID, .string a0_Name, .string (⟨#[]⟩ : ByteArray), .bool a0_Sealed, .int .i64 a0_Until, .slice A_a0_Holds a0_Holds.length c_a0_Holds] : List Value))) (o := 0) (cs := (([.int .i64 a0_ID, .string a0_Name, .string (⟨#[]⟩ : ByteArray), .bool a0_Sealed, .int .i64 a0_Until, .slice A_a0_Holds a0_Holds.length c_a0_Holds] : List Value))) (ent_refl _) (by kernel_rfl) (whole _ _ (by kernel_rfl))) w hI
  have hI := hI.drop
  have hI := hI.drop
  have e := someS h0
  subst e
  refine Qn.keep [2] (S' := [(2, .pointer (some ⟨b2, 0, none⟩))]) (by kernel_rfl) ?_
  exact post_ret (v := .agg ((([.int .i64 a0_ID, .string a0_Name, .string (⟨#[]⟩ : ByteArray), .bool a0_Sealed, .int .i64 a0_Until, .slice A_a0_Holds a0_Holds.length c_a0_Holds] : List Value))).toArray) (fun a ha => RunRes.run (vs := [.agg ((([.int .i64 a0_ID, .string a0_Name, .string (⟨#[]⟩ : ByteArray), .bool a0_Sealed, .int .i64 a0_Until, .slice A_a0_Holds a0_Holds.length c_a0_Holds] : List Value))).toArray]) (.cell (t := 2) (T := 24) (ad := ⟨b2, 0, none⟩) (by kernel_rfl) hL3 .nil) ha (by kernel_rfl)) ⟨A_a0_Holds, c_a0_Holds, Z, Hp.le_refl _, rfl, hr_a0_Holds, hI⟩
set_option maxRecDepth 100000 in
set_option maxHeartbeats 4000000 in
/-- cenotaph/cenotaphlaw08.works -/
theorem c9 (w0 w : World) (Z : Hp) (A : HP) (hI : Inv w0 Z w A) (hT : Tabs Z)  (r : Bool) (h0 : law08_works = some r) :
    Calls prog 9 #[] w (fun e w' => e = .returned (.bool r) ∧ Inv w0 Z w' A) := by
  have e4 := calls_intro (R := (fun e w' => e = .returned (.bool r) ∧ Inv w0 Z w' A)) (w := w) (args := []) (fn := Go.Proofs.Tryd.f9) 84 Go.Proofs.Tryd.func9 (by rfl) Go.Proofs.Tryd.ntmps9 (by kernel_rfl)
  refine e4 ?_
  clear e4
  unfold law08_works at h0
  refine CodT.seq ?_
  refine CodT.regionL [0] (by kernel_rfl) ?_
  refine OpsT.pures (r := []) [0] [] (S' := []) (by kernel_rfl) ?_
  refine OpsT.done ?_
  refine Qn.then ?_
  refine CodT.seq ?_
  refine CodT.regionL [0, 1, 2, 3, 4, 5, 6] (by kernel_rfl) ?_
  obtain ⟨⟨y2, y3, y4, y5, y6, y7, y10⟩, hc1, h0⟩ := bindS h0
  try dsimp only at h0
  refine OpsT.cons (Does.call (d := some 10) (n := 13) (vs := [.int .i64 1, .string (⟨#[120]⟩ : ByteArray)]) (by kernel_rfl) en13 (c13 w0 w _ _ hI hT 1 (⟨#[120]⟩ : ByteArray) _ hc1) ?_)
  rintro e w ⟨A8, cp9, rfl, hI⟩
  refine ⟨_, rfl, ?_⟩
  refine OpsT.pures (r := [4, 5, 6]) [1, 2, 3] [11, 12] (S' := [(11, .agg ((([.int .i64 y2, .string y3, .string y4, .bool y5, .int .i64 y6, .slice A8 y7.length cp9] : List Value))).toArray), (12, .int .i64 y10)]) (by kernel_rfl) ?_
  refine OpsT.cons (Does.allocL (d := 1) (T := 24) ((([.int .i64 0, .string (⟨#[]⟩ : ByteArray), .string (⟨#[]⟩ : ByteArray), .bool false, .int .i64 0, .slice none 0 0] : List Value))) (by kernel_rfl) ty24 hI (by kernel_rfl) ?_)
  intro b11 w hI
  refine OpsT.cons (Does.storeLit (T := 24) (b := b11) (o := 0) (v := .agg ((([.int .i64 y2, .string y3, .string y4, .bool y5, .int .i64 y6, .slice A8 y7.length cp9] : List Value))).toArray) (l := (([.int .i64 0, .string (⟨#[]⟩ : ByteArray), .string (⟨#[]⟩ : ByteArray), .bool false, .int .i64 0, .slice none 0 0] : List Value))) (vs := (([.int .i64 y2, .string y3, .string y4, .bool y5, .int .i64 y6, .slice A8 y7.length cp9] : List Value))) (L' := (([.int .i64 y2, .string y3, .string y4, .bool y5, .int .i64 y6, .slice A8 y7.length cp9] : List Value))) (by kernel_rfl) ty24 hI (by kernel_rfl) (by kernel_rfl) (by kernel_rfl) (by kernel_rfl) (by kernel_rfl) ?_)
  intro w hI
  refine OpsT.pures (r := []) [6] [1, 2] (S' := [(1, .pointer (some ⟨b11, 0, none⟩)), (2, .int .i64 y10)]) (by kernel_rfl) ?_
  refine OpsT.done ?_
  refine Qn.then ?_
  refine CodT.seq ?_
  refine CodT.regionL [0, 1, 2, 3, 4, 5, 6] (by kernel_rfl) ?_
  refine OpsT.cons (Does.yi (Yl.load (d := 14) (T := 24) (v := .agg ((([.int .i64 y2, .string y3, .string y4, .bool y5, .int .i64 y6, .slice A8 y7.length cp9] : List Value))).toArray) (by kernel_rfl) (ldBN ty24 (l := (([.int .i64 y2, .string y3, .string y4, .bool y5, .int .i64 y6, .slice A8 y7.length cp9] : List Value))) (o := 0) (cs := (([.int .i64 y2, .string y3, .string y4, .bool y5, .int .i64 y6, .slice A8 y7.length cp9] : List Value))) (ent_refl _) (by kernel_rfl) (whole _ _ (by kernel_rfl)))) hI ?_)
  have hI := hI.mono (pick2 _ _ _)
  obtain ⟨Z12, hle13, hr14, hI⟩ := ownS_freeze hI
  obtain ⟨⟨y16, y17, y18, y19, y20, y21, y25⟩, hc15, h0⟩ := bindS h0
  try dsimp only at h0
  refine OpsT.cons (Does.call (d := some 15) (n := 22) (vs := [.agg ((([.int .i64 y2, .string y3, .string y4, .bool y5, .int .i64 y6, .slice A8 y7.length cp9] : List Value))).toArray, .string (⟨#[97, 98]⟩ : ByteArray)]) (by kernel_rfl) en22 (c22 w0 w _ _ hI (hT.mono hle13) y2 y3 y4 y5 y6 A8 cp9 y7 hr14 (⟨#[97, 98]⟩ : ByteArray) _ hc15) ?_)
  rintro e w ⟨A22, cp23, Z26, hle27, rfl, hr24, hI⟩
  refine ⟨_, rfl, ?_⟩
  refine OpsT.pures (r := [5, 6]) [2, 3, 4] [1, 2, 16, 17] (S' := [(1, .pointer (some ⟨b11, 0, none⟩)), (2, .int .i64 y10), (16, .agg ((([.int .i64 y16, .string y17, .string y18, .bool y19, .int .i64 y20, .slice A22 y21.length cp23] : List Value))).toArray), (17, .int .i64 y25)]) (by kernel_rfl) ?_
  refine OpsT.cons (Does.storeLit (T := 24) (b := b11) (o := 0) (v := .agg ((([.int .i64 y16, .string y17, .string y18, .bool y19, .int .i64 y20, .slice A22 y21.length cp23] : List Value))).toArray) (l := (([.int .i64 y2, .string y3, .string y4, .bool y5, .int .i64 y6, .slice A8 y7.length cp9] : List Value))) (vs := (([.int .i64 y16, .string y17, .string y18, .bool y19, .int .i64 y20, .slice A22 y21.length cp23] : List Value))) (L' := (([.int .i64 y16, .string y17, .string y18, .bool y19, .int .i64 y20, .slice A22 y21.length cp23] : List Value))) (by kernel_rfl) ty24 hI (by kernel_rfl) (by kernel_rfl) (by kernel_rfl) (by kernel_rfl) (by kernel_rfl) ?_)
  intro w hI
  refine OpsT.pures (r := []) [6] [1, 2, 3] (S' := [(1, .pointer (some ⟨b11, 0, none⟩)), (2, .int .i64 y10), (3, .int .i64 y25)]) (by kernel_rfl) ?_
  refine OpsT.done ?_
  refine Qn.then ?_
  refine CodT.seq ?_
  refine CodT.regionL [0, 1, 2, 3, 4, 5, 6, 7, 8, 9, 10, 11] (by kernel_rfl) ?_
  refine OpsT.cons (Does.yi (Yl.load (d := 19) (T := 24) (v := .agg ((([.int .i64 y16, .string y17, .string y18, .bool y19, .int .i64 y20, .slice A22 y21.length cp23] : List Value))).toArray) (by kernel_rfl) (ldBN ty24 (l := (([.int .i64 y16, .string y17, .string y18, .bool y19, .int .i64 y20, .slice A22 y21.length cp23] : List Value))) (o := 0) (cs := (([.int .i64 y16, .string y17, .string y18, .bool y19, .int .i64 y20, .slice A22 y21.length cp23] : List Value))) (ent_refl _) (by kernel_rfl) (whole _ _ (by kernel_rfl)))) hI ?_)
  refine OpsT.pures (r := [2, 3, 4, 5, 6, 7, 8, 9, 10, 11]) [1] [2, 3, 19, 20] (S' := [(2, .int .i64 y10), (3, .int .i64 y25), (19, .agg ((([.int .i64 y16, .string y17, .string y18, .bool y19, .int .i64 y20, .slice A22 y21.length cp23] : List Value))).toArray), (20, .agg (c_ApiOp (ApiOp.mk 1 (⟨#[]⟩ : ByteArray) (⟨#[99]⟩ : ByteArray) 0 0 0)).toArray)]) (by kernel_rfl) ?_
  obtain ⟨⟨y29, y30, y31, y32, y33, y34, y38, y40⟩, hc28, h0⟩ := bindS h0
  try dsimp only at h0
  refine OpsT.cons (Does.call (d := some 21) (n := 20) (vs := [.agg ((([.int .i64 y16, .string y17, .string y18, .bool y19, .int .i64 y20, .slice A22 y21.length cp23] : List Value))).toArray, .agg (c_ApiOp (ApiOp.mk 1 (⟨#[]⟩ : ByteArray) (⟨#[99]⟩ : ByteArray) 0 0 0)).toArray, .int .i64 0]) (by kernel_rfl) en20 (c20 w0 w _ _ hI (hT.mono (Hp.le_trans hle13 hle27)) y16 y17 y18 y19 y20 A22 cp23 y21 hr24 (ApiOp.mk 1 (⟨#[]⟩ : ByteArray) (⟨#[99]⟩ : ByteArray) 0 0 0) 0 _ hc28) ?_)
  rintro e w ⟨A35, cp36, Z41, hle42, rfl, hr37, hl39, hI⟩
  refine ⟨_, rfl, ?_⟩
  refine OpsT.pures (r := [7, 8, 9, 10, 11]) [3, 4, 5, 6] [2, 3, 22, 23, 24] (S' := [(2, .int .i64 y10), (3, .int .i64 y25), (22, .agg ((([.int .i64 y29, .string y30, .string y31, .bool y32, .int .i64 y33, .slice A35 y34.length cp36] : List Value))).toArray), (23, .agg (c_ApiEvent y38).toArray), (24, .int .i64 y40)]) (by kernel_rfl) ?_
  refine OpsT.cons (Does.allocL (d := 4) (T := 24) ((([.int .i64 0, .string (⟨#[]⟩ : ByteArray), .string (⟨#[]⟩ : ByteArray), .bool false, .int .i64 0, .slice none 0 0] : List Value))) (by kernel_rfl) ty24 hI (by kernel_rfl) ?_)
  intro b43 w hI
  refine OpsT.cons (Does.allocL (d := 5) (T := 39) (c_ApiEvent (ApiEvent.mk 0 0 (⟨#[]⟩ : ByteArray) 0 0 (List.replicate 32 (0 : Int)))) (by kernel_rfl) ty39 hI (by kernel_rfl) ?_)
  intro b44 w hI
  have hI := hI.mono (pick2 _ _ _)
  refine OpsT.cons (Does.storeLit (T := 24) (b := b43) (o := 0) (v := .agg ((([.int .i64 y29, .string y30, .string y31, .bool y32, .int .i64 y33, .slice A35 y34.length cp36] : List Value))).toArray) (l := (([.int .i64 0, .string (⟨#[]⟩ : ByteArray), .string (⟨#[]⟩ : ByteArray), .bool false, .int .i64 0, .slice none 0 0] : List Value))) (vs := (([.int .i64 y29, .string y30, .string y31, .bool y32, .int .i64 y33, .slice A35 y34.length cp36] : List Value))) (L' := (([.int .i64 y29, .string y30, .string y31, .bool y32, .int .i64 y33, .slice A35 y34.length cp36] : List Value))) (by kernel_rfl) ty24 hI (by kernel_rfl) (by kernel_rfl) (by kernel_rfl) (by kernel_rfl) (by kernel_rfl) ?_)
  intro w hI
  have hI := hI.mono (pick2 _ _ _)
  refine OpsT.cons (Does.storeLit (T := 39) (b := b44) (o := 0) (v := .agg (c_ApiEvent y38).toArray) (l := c_ApiEvent (ApiEvent.mk 0 0 (⟨#[]⟩ : ByteArray) 0 0 (List.replicate 32 (0 : Int)))) (vs := c_ApiEvent y38) (L' := c_ApiEvent y38) (by kernel_rfl) ty39 hI (by kernel_rfl) (len_ApiEvent _ hl39) (by rw [(len_ApiEvent _ (by kernel_rfl))]; kernel_rfl) (ones_app _ _ (by kernel_rfl) (ones_cA _)) (lset_all _ _ (Eq.trans (len_ApiEvent _ hl39) (Eq.symm (len_ApiEvent _ (by kernel_rfl))))) ?_)
  intro w hI
  refine OpsT.pures (r := []) [11] [2, 3, 4, 5, 6] (S' := [(2, .int .i64 y10), (3, .int .i64 y25), (4, .pointer (some ⟨b43, 0, none⟩)), (5, .pointer (some ⟨b44, 0, none⟩)), (6, .int .i64 y40)]) (by kernel_rfl) ?_
  refine OpsT.done ?_
  refine Qn.then ?_
  refine CodT.seq ?_
  refine CodT.regionL [0, 1, 2, 3, 4, 5, 6] (by kernel_rfl) ?_
  refine OpsT.cons (Does.yi (Yl.load (d := 26) (T := 24) (v := .agg ((([.int .i64 y29, .string y30, .string y31, .bool y32, .int .i64 y33, .slice A35 y34.length cp36] : List Value))).toArray) (by kernel_rfl) (ldBN ty24 (l := (([.int .i64 y29, .string y30, .string y31, .bool y32, .int .i64 y33, .slice A35 y34.length cp36] : List Value))) (o := 0) (cs := (([.int .i64 y29, .string y30, .string y31, .bool y32, .int .i64 y33, .slice A35 y34.length cp36] : List Value))) (pick2 _ _ _) (by kernel_rfl) (whole _ _ (by kernel_rfl)))) hI ?_)
  obtain ⟨⟨y46, y47⟩, hc45, h0⟩ := bindS h0
  try dsimp only at h0
  refine OpsT.cons (Does.call (d := some 27) (n := 11) (vs := [.agg ((([.int .i64 y29, .string y30, .string y31, .bool y32, .int .i64 y33, .slice A35 y34.length cp36] : List Value))).toArray, .int .i64 1, .int .i64 3]) (by kernel_rfl) en11 (c11 w0 w _ _ hI (hT.mono (Hp.le_trans (Hp.le_trans hle13 hle27) hle42)) y29 y30 y31 y32 y33 A35 cp36 y34 hr37 1 3 _ hc45) ?_)
  rintro e w ⟨rfl, hI⟩
  refine ⟨_, rfl, ?_⟩
  refine OpsT.pures (r := []) [2, 3, 4, 5, 6] [2, 3, 4, 5, 6, 7, 8] (S' := [(2, .int .i64 y10), (3, .int .i64 y25), (4, .pointer (some ⟨b43, 0, none⟩)), (5, .pointer (some ⟨b44, 0, none⟩)), (6, .int .i64 y40), (7, .string y46), (8, .int .i64 y47)]) (by kernel_rfl) ?_
  refine OpsT.done ?_
  refine Qn.then ?_
  obtain ⟨r1, h1, h0⟩ := bindS h0
  refine CodT.meet (fun a w => ∃ (x50 : Bool) (Z48 : Hp), x50 = r1 ∧ Fr 84 [(0, .bool x50)] a ∧ Inv w0 Z48 w A ∧ Z41.le Z48) ?_ ?_
  ·
    refine CodT.regionL [0, 1, 2, 3, 4, 5, 6, 7, 8, 9, 10, 11, 12, 13, 14, 15, 16, 17, 18, 19, 20, 21, 22, 23, 24, 25, 26, 27, 28, 29, 30, 31, 32, 33, 34, 35, 36, 37, 38, 39, 40, 41, 42, 43, 44, 45, 46, 47, 48, 49, 50, 51, 52, 53, 54] (by kernel_rfl) ?_
    refine OpsT.pures (r := [3, 4, 5, 6, 7, 8, 9, 10, 11, 12, 13, 14, 15, 16, 17, 18, 19, 20, 21, 22, 23, 24, 25, 26, 27, 28, 29, 30, 31, 32, 33, 34, 35, 36, 37, 38, 39, 40, 41, 42, 43, 44, 45, 46, 47, 48, 49, 50, 51, 52, 53, 54]) [0, 1, 2] [3, 4, 5, 6, 7, 8, 32] (S' := [(3, .int .i64 y25), (4, .pointer (some ⟨b43, 0, none⟩)), (5, .pointer (some ⟨b44, 0, none⟩)), (6, .int .i64 y40), (7, .string y46), (8, .int .i64 y47), (32, .bool (y10 == 0))]) (by kernel_rfl) ?_
    by_cases hb51 : (y10 == 0) = true
    · rw [if_pos hb51] at h1
      refine OpsT.keep [3, 4, 5, 6, 7, 8, 32] (S' := [(3, .int .i64 y25), (4, .pointer (some ⟨b43, 0, none⟩)), (5, .pointer (some ⟨b44, 0, none⟩)), (6, .int .i64 y40), (7, .string y46), (8, .int .i64 y47), (32, .bool true)]) (by (try simp only [hb51]); kernel_rfl) ?_
      refine OpsT.pures (r := [7, 8, 9, 10, 11, 12, 13, 14, 15, 16, 17, 18, 19, 20, 21, 22, 23, 24, 25, 26, 27, 28, 29, 30, 31, 32, 33, 34, 35, 36, 37, 38, 39, 40, 41, 42, 43, 44, 45, 46, 47, 48, 49, 50, 51, 52, 53, 54]) [3, 4, 5, 6] [4, 5, 6, 7, 8, 36] (S' := [(4, .pointer (some ⟨b43, 0, none⟩)), (5, .pointer (some ⟨b44, 0, none⟩)), (6, .int .i64 y40), (7, .string y46), (8, .int .i64 y47), (36, .bool (y25 == 0))]) (by kernel_rfl) ?_
      by_cases hb52 : (y25 == 0) = true
      · rw [if_pos hb52] at h1
        refine OpsT.keep [4, 5, 6, 7, 8, 36] (S' := [(4, .pointer (some ⟨b43, 0, none⟩)), (5, .pointer (some ⟨b44, 0, none⟩)), (6, .int .i64 y40), (7, .string y46), (8, .int .i64 y47), (36, .bool true)]) (by (try simp only [hb52]); kernel_rfl) ?_
        refine OpsT.pures (r := [11, 12, 13, 14, 15, 16, 17, 18, 19, 20, 21, 22, 23, 24, 25, 26, 27, 28, 29, 30, 31, 32, 33, 34, 35, 36, 37, 38, 39, 40, 41, 42, 43, 44, 45, 46, 47, 48, 49, 50, 51, 52, 53, 54]) [7, 8, 9, 10] [4, 5, 7, 8, 40] (S' := [(4, .pointer (some ⟨b43, 0, none⟩)), (5, .pointer (some ⟨b44, 0, none⟩)), (7, .string y46), (8, .int .i64 y47), (40, .bool (y40 == 0))]) (by kernel_rfl) ?_
        by_cases hb53 : (y40 == 0) = true
        · rw [if_pos hb53] at h1
          refine OpsT.keep [4, 5, 7, 8, 40] (S' := [(4, .pointer (some ⟨b43, 0, none⟩)), (5, .pointer (some ⟨b44, 0, none⟩)), (7, .string y46), (8, .int .i64 y47), (40, .bool true)]) (by (try simp only [hb53]); kernel_rfl) ?_
          refine OpsT.pures (r := [12, 13, 14, 15, 16, 17, 18, 19, 20, 21, 22, 23, 24, 25, 26, 27, 28, 29, 30, 31, 32, 33, 34, 35, 36, 37, 38, 39, 40, 41, 42, 43, 44, 45, 46, 47, 48, 49, 50, 51, 52, 53, 54]) [11] [4, 5, 7, 8, 40, 41] (S' := [(4, .pointer (some ⟨b43, 0, none⟩)), (5, .pointer (some ⟨b44, 0, none⟩)), (7, .string y46), (8, .int .i64 y47), (40, .bool true), (41, .pointer (some ⟨b43, 2, none⟩))]) (by kernel_rfl) ?_
          refine OpsT.cons (Does.yi (Yl.load (d := 42) (T := 9) (v := .string y31) (by kernel_rfl) (ldB ty9 (l := (([.int .i64 y29, .string y30, .string y31, .bool y32, .int .i64 y33, .slice A35 y34.length cp36] : List Value))) (o := 2) (v := .string y31) (pick2 _ _ _) (by kernel_rfl))) hI ?_)
          refine OpsT.pures (r := [16, 17, 18, 19, 20, 21, 22, 23, 24, 25, 26, 27, 28, 29, 30, 31, 32, 33, 34, 35, 36, 37, 38, 39, 40, 41, 42, 43, 44, 45, 46, 47, 48, 49, 50, 51, 52, 53, 54]) [13, 14, 15] [4, 5, 7, 8, 45] (S' := [(4, .pointer (some ⟨b43, 0, none⟩)), (5, .pointer (some ⟨b44, 0, none⟩)), (7, .string y46), (8, .int .i64 y47), (45, .bool (seq y31 (⟨#[97, 98, 99]⟩ : ByteArray)))]) (by kernel_rfl) ?_
          by_cases hb54 : (seq y31 (⟨#[97, 98, 99]⟩ : ByteArray)) = true
          · rw [if_pos hb54] at h1
            refine OpsT.keep [4, 5, 7, 8, 45] (S' := [(4, .pointer (some ⟨b43, 0, none⟩)), (5, .pointer (some ⟨b44, 0, none⟩)), (7, .string y46), (8, .int .i64 y47), (45, .bool true)]) (by (try simp only [hb54]); kernel_rfl) ?_
            refine OpsT.cons (Does.yi (Yl.load (d := 46) (T := 39) (v := .agg (c_ApiEvent y38).toArray) (by kernel_rfl) (ldBN ty39 (l := c_ApiEvent y38) (o := 0) (cs := c_ApiEvent y38) (ent_refl _) (len_ApiEvent _ hl39) (whole _ _ (len_ApiEvent _ hl39)))) hI ?_)
            refine OpsT.pures (r := [18, 19, 20, 21, 22, 23, 24, 25, 26, 27, 28, 29, 30, 31, 32, 33, 34, 35, 36, 37, 38, 39, 40, 41, 42, 43, 44, 45, 46, 47, 48, 49, 50, 51, 52, 53, 54]) [17] [4, 7, 8, 45, 46, 47] (S' := [(4, .pointer (some ⟨b43, 0, none⟩)), (7, .string y46), (8, .int .i64 y47), (45, .bool true), (46, .agg (c_ApiEvent y38).toArray), (47, .agg (c_ApiEvent (ApiEvent.mk 1 1 (⟨#[]⟩ : ByteArray) 0 1 (List.replicate 32 (0 : Int)))).toArray)]) (by kernel_rfl) ?_
            refine OpsT.cons (Does.yi (Yl.eqlS (d := 48) (T := 39) (xs := ([.int .i64 y38.Kind, .int .i64 y38.ID, .string y38.Name, .int .i64 y38.Time, .int .i64 y38.Len] : List Value) ++ (cA (Value.int .u8) y38.Sum)) (ys := ([.int .i64 1, .int .i64 1, .string (⟨#[]⟩ : ByteArray), .int .i64 0, .int .i64 1] : List Value) ++ (cA (Value.int .u8) (List.replicate 32 (0 : Int)))) (r := eq_ApiEvent y38 (ApiEvent.mk 1 1 (⟨#[]⟩ : ByteArray) 0 1 (List.replicate 32 (0 : Int)))) (by kernel_rfl) Go.Proofs.Tryd.underlying39 (by kernel_rfl) (by kernel_rfl) (.cons rfl (part1 (v := .int .i64 y38.Kind) ty35 (by kernel_rfl)) (part1 (v := .int .i64 1) ty35 (by kernel_rfl)) (eqI Go.Proofs.Tryd.underlying35) (.cons rfl (part1 (v := .int .i64 y38.ID) ty3 (by kernel_rfl)) (part1 (v := .int .i64 1) ty3 (by kernel_rfl)) (eqI Go.Proofs.Tryd.underlying3) (.cons rfl (part1 (v := .string y38.Name) ty9 (by kernel_rfl)) (part1 (v := .string (⟨#[]⟩ : ByteArray)) ty9 (by kernel_rfl)) (eqS Go.Proofs.Tryd.underlying9) (.cons rfl (part1 (v := .int .i64 y38.Time) ty3 (by kernel_rfl)) (part1 (v := .int .i64 0) ty3 (by kernel_rfl)) (eqI Go.Proofs.Tryd.underlying3) (.cons rfl (part1 (v := .int .i64 y38.Len) ty3 (by kernel_rfl)) (part1 (v := .int .i64 1) ty3 (by kernel_rfl)) (eqI Go.Proofs.Tryd.underlying3) (.cons rfl (partN ty37 (tail_take _ _ _ _ _ (by kernel_rfl) hl39)) (partN ty37 (tail_take _ _ _ _ _ (by kernel_rfl) (by kernel_rfl))) (eqAr Go.Proofs.Tryd.underlying37 Go.Proofs.Tryd.underlying5 ty5 hl39 (by kernel_rfl)) .nil))))))) hI ?_)
            refine OpsT.pures (r := [21, 22, 23, 24, 25, 26, 27, 28, 29, 30, 31, 32, 33, 34, 35, 36, 37, 38, 39, 40, 41, 42, 43, 44, 45, 46, 47, 48, 49, 50, 51, 52, 53, 54]) [19, 20] [4, 7, 8, 50] (S' := [(4, .pointer (some ⟨b43, 0, none⟩)), (7, .string y46), (8, .int .i64 y47), (50, .bool (eq_ApiEvent y38 (ApiEvent.mk 1 1 (⟨#[]⟩ : ByteArray) 0 1 (List.replicate 32 (0 : Int)))))]) (by kernel_rfl) ?_
            by_cases hb55 : (eq_ApiEvent y38 (ApiEvent.mk 1 1 (⟨#[]⟩ : ByteArray) 0 1 (List.replicate 32 (0 : Int)))) = true
            · rw [if_pos hb55] at h1
              refine OpsT.keep [4, 7, 8, 50] (S' := [(4, .pointer (some ⟨b43, 0, none⟩)), (7, .string y46), (8, .int .i64 y47), (50, .bool true)]) (by (try simp only [hb55]); kernel_rfl) ?_
              refine OpsT.pures (r := [25, 26, 27, 28, 29, 30, 31, 32, 33, 34, 35, 36, 37, 38, 39, 40, 41, 42, 43, 44, 45, 46, 47, 48, 49, 50, 51, 52, 53, 54]) [21, 22, 23, 24] [4, 8, 54] (S' := [(4, .pointer (some ⟨b43, 0, none⟩)), (8, .int .i64 y47), (54, .bool (seq y46 (⟨#[98, 99]⟩ : ByteArray)))]) (by kernel_rfl) ?_
              by_cases hb56 : (seq y46 (⟨#[98, 99]⟩ : ByteArray)) = true
              · rw [if_pos hb56] at h1
                refine OpsT.keep [4, 8, 54] (S' := [(4, .pointer (some ⟨b43, 0, none⟩)), (8, .int .i64 y47), (54, .bool true)]) (by (try simp only [hb56]); kernel_rfl) ?_
                refine OpsT.pures (r := [29, 30, 31, 32, 33, 34, 35, 36, 37, 38, 39, 40, 41, 42, 43, 44, 45, 46, 47, 48, 49, 50, 51, 52, 53, 54]) [25, 26, 27, 28] [4, 58] (S' := [(4, .pointer (some ⟨b43, 0, none⟩)), (58, .bool (y47 == 0))]) (by kernel_rfl) ?_
                by_cases hb57 : (y47 == 0) = true
                · rw [if_pos hb57] at h1
                  refine OpsT.keep [4, 58] (S' := [(4, .pointer (some ⟨b43, 0, none⟩)), (58, .bool true)]) (by (try simp only [hb57]); kernel_rfl) ?_
                  refine OpsT.cons (Does.yi (Yl.load (d := 59) (T := 24) (v := .agg ((([.int .i64 y29, .string y30, .string y31, .bool y32, .int .i64 y33, .slice A35 y34.length cp36] : List Value))).toArray) (by kernel_rfl) (ldBN ty24 (l := (([.int .i64 y29, .string y30, .string y31, .bool y32, .int .i64 y33, .slice A35 y34.length cp36] : List Value))) (o := 0) (cs := (([.int .i64 y29, .string y30, .string y31, .bool y32, .int .i64 y33, .slice A35 y34.length cp36] : List Value))) (pick2 _ _ _) (by kernel_rfl) (whole _ _ (by kernel_rfl)))) hI ?_)
                  obtain ⟨y59, hc58, h1⟩ := bindS h1
                  try dsimp only at h1
                  refine OpsT.cons (Does.call (d := some 60) (n := 17) (vs := [.agg ((([.int .i64 y29, .string y30, .string y31, .bool y32, .int .i64 y33, .slice A35 y34.length cp36] : List Value))).toArray]) (by kernel_rfl) en17 (c17 w0 w _ _ hI (hT.mono (Hp.le_trans (Hp.le_trans hle13 hle27) hle42)) y29 y30 y31 y32 y33 A35 cp36 y34 hr37 _ hc58) ?_)
                  rintro e w ⟨rfl, hI⟩
                  refine ⟨_, rfl, ?_⟩
                  refine OpsT.pures (r := [33, 34, 35, 36, 37, 38, 39, 40, 41, 42, 43, 44, 45, 46, 47, 48, 49, 50, 51, 52, 53, 54]) [31, 32] [4, 62] (S' := [(4, .pointer (some ⟨b43, 0, none⟩)), (62, .bool y59)]) (by kernel_rfl) ?_
                  by_cases hb60 : y59 = true
                  · rw [if_pos hb60] at h1
                    refine OpsT.keep [4, 62] (S' := [(4, .pointer (some ⟨b43, 0, none⟩)), (62, .bool true)]) (by (try simp only [hb60]); kernel_rfl) ?_
                    refine OpsT.cons (Does.yi (Yl.load (d := 63) (T := 24) (v := .agg ((([.int .i64 y29, .string y30, .string y31, .bool y32, .int .i64 y33, .slice A35 y34.length cp36] : List Value))).toArray) (by kernel_rfl) (ldBN ty24 (l := (([.int .i64 y29, .string y30, .string y31, .bool y32, .int .i64 y33, .slice A35 y34.length cp36] : List Value))) (o := 0) (cs := (([.int .i64 y29, .string y30, .string y31, .bool y32, .int .i64 y33, .slice A35 y34.length cp36] : List Value))) (pick2 _ _ _) (by kernel_rfl) (whole _ _ (by kernel_rfl)))) hI ?_)
                    refine OpsT.cons (Does.yi (Yl.load (d := 64) (T := 24) (v := .agg ((([.int .i64 y29, .string y30, .string y31, .bool y32, .int .i64 y33, .slice A35 y34.length cp36] : List Value))).toArray) (by kernel_rfl) (ldBN ty24 (l := (([.int .i64 y29, .string y30, .string y31, .bool y32, .int .i64 y33, .slice A35 y34.length cp36] : List Value))) (o := 0) (cs := (([.int .i64 y29, .string y30, .string y31, .bool y32, .int .i64 y33, .slice A35 y34.length cp36] : List Value))) (pick2 _ _ _) (by kernel_rfl) (whole _ _ (by kernel_rfl)))) hI ?_)
                    obtain ⟨y62, hc61, h1⟩ := bindS h1
                    try dsimp only at h1
                    refine OpsT.cons (Does.call (d := some 65) (n := 18) (vs := [.agg ((([.int .i64 y29, .string y30, .string y31, .bool y32, .int .i64 y33, .slice A35 y34.length cp36] : List Value))).toArray, .agg ((([.int .i64 y29, .string y30, .string y31, .bool y32, .int .i64 y33, .slice A35 y34.length cp36] : List Value))).toArray]) (by kernel_rfl) en18 (c18 w0 w _ _ hI (hT.mono (Hp.le_trans (Hp.le_trans hle13 hle27) hle42)) y29 y30 y31 y32 y33 A35 cp36 y34 hr37 y29 y30 y31 y32 y33 A35 cp36 y34 hr37 _ hc61) ?_)
                    rintro e w ⟨rfl, hI⟩
                    refine ⟨_, rfl, ?_⟩
                    refine OpsT.pures (r := [38, 39, 40, 41, 42, 43, 44, 45, 46, 47, 48, 49, 50, 51, 52, 53, 54]) [36, 37] [4, 67] (S' := [(4, .pointer (some ⟨b43, 0, none⟩)), (67, .bool y62)]) (by kernel_rfl) ?_
                    by_cases hb63 : y62 = true
                    · rw [if_pos hb63] at h1
                      refine OpsT.keep [4, 67] (S' := [(4, .pointer (some ⟨b43, 0, none⟩)), (67, .bool true)]) (by (try simp only [hb63]); kernel_rfl) ?_
                      refine OpsT.cons (Does.yi (Yl.load (d := 68) (T := 24) (v := .agg ((([.int .i64 y29, .string y30, .string y31, .bool y32, .int .i64 y33, .slice A35 y34.length cp36] : List Value))).toArray) (by kernel_rfl) (ldBN ty24 (l := (([.int .i64 y29, .string y30, .string y31, .bool y32, .int .i64 y33, .slice A35 y34.length cp36] : List Value))) (o := 0) (cs := (([.int .i64 y29, .string y30, .string y31, .bool y32, .int .i64 y33, .slice A35 y34.length cp36] : List Value))) (pick2 _ _ _) (by kernel_rfl) (whole _ _ (by kernel_rfl)))) hI ?_)
                      obtain ⟨⟨y65, y66, y67, y68, y69, y70⟩, hc64, h1⟩ := bindS h1
                      try dsimp only at h1
                      refine OpsT.cons (Does.call (d := some 69) (n := 19) (vs := [.agg ((([.int .i64 y29, .string y30, .string y31, .bool y32, .int .i64 y33, .slice A35 y34.length cp36] : List Value))).toArray]) (by kernel_rfl) en19 (c19 w0 w _ _ hI (hT.mono (Hp.le_trans (Hp.le_trans hle13 hle27) hle42)) y29 y30 y31 y32 y33 A35 cp36 y34 hr37 _ hc64) ?_)
                      rintro e w ⟨A71, cp72, Z74, hle75, rfl, hr73, hI⟩
                      refine ⟨_, rfl, ?_⟩
                      refine OpsT.pures (r := [44, 45, 46, 47, 48, 49, 50, 51, 52, 53, 54]) [40, 41, 42, 43] [4, 73] (S' := [(4, .pointer (some ⟨b43, 0, none⟩)), (73, .bool (seq y67 (⟨#[]⟩ : ByteArray)))]) (by kernel_rfl) ?_
                      by_cases hb76 : (seq y67 (⟨#[]⟩ : ByteArray)) = true
                      · rw [if_pos hb76] at h1
                        refine OpsT.keep [4, 73] (S' := [(4, .pointer (some ⟨b43, 0, none⟩)), (73, .bool true)]) (by (try simp only [hb76]); kernel_rfl) ?_
                        refine OpsT.cons (Does.yi (Yl.load (d := 74) (T := 24) (v := .agg ((([.int .i64 y29, .string y30, .string y31, .bool y32, .int .i64 y33, .slice A35 y34.length cp36] : List Value))).toArray) (by kernel_rfl) (ldBN ty24 (l := (([.int .i64 y29, .string y30, .string y31, .bool y32, .int .i64 y33, .slice A35 y34.length cp36] : List Value))) (o := 0) (cs := (([.int .i64 y29, .string y30, .string y31, .bool y32, .int .i64 y33, .slice A35 y34.length cp36] : List Value))) (pick2 _ _ _) (by kernel_rfl) (whole _ _ (by kernel_rfl)))) hI ?_)
                        obtain ⟨⟨y78, y79, y80, y81, y82, y83⟩, hc77, h1⟩ := bindS h1
                        try dsimp only at h1
                        refine OpsT.cons (Does.call (d := some 75) (n := 19) (vs := [.agg ((([.int .i64 y29, .string y30, .string y31, .bool y32, .int .i64 y33, .slice A35 y34.length cp36] : List Value))).toArray]) (by kernel_rfl) en19 (c19 w0 w _ _ hI (hT.mono (Hp.le_trans (Hp.le_trans (Hp.le_trans hle13 hle27) hle42) hle75)) y29 y30 y31 y32 y33 A35 cp36 y34 (hr37.mono hle75) _ hc77) ?_)
                        rintro e w ⟨A84, cp85, Z87, hle88, rfl, hr86, hI⟩
                        refine ⟨_, rfl, ?_⟩
                        refine OpsT.pures (r := [50, 51, 52, 53, 54]) [46, 47, 48, 49] [79] (S' := [(79, .bool (seq y79 (⟨#[120]⟩ : ByteArray)))]) (by kernel_rfl) ?_
                        by_cases hb89 : (seq y79 (⟨#[120]⟩ : ByteArray)) = true
                        · rw [if_pos hb89] at h1
                          refine OpsT.keep [79] (S' := [(79, .bool true)]) (by (try simp only [hb89]); kernel_rfl) ?_
                          refine OpsT.pures (r := [51, 52, 53, 54]) [50] [79, 80] (S' := [(79, .bool true), (80, .agg ((([.int .i64 0, .string (⟨#[]⟩ : ByteArray), .string (⟨#[]⟩ : ByteArray), .bool false, .int .i64 0, .slice none 0 0] : List Value))).toArray)]) (by kernel_rfl) ?_
                          obtain ⟨y91, hc90, h1⟩ := bindS h1
                          try dsimp only at h1
                          refine OpsT.cons (Does.call (d := some 81) (n := 17) (vs := [.agg ((([.int .i64 0, .string (⟨#[]⟩ : ByteArray), .string (⟨#[]⟩ : ByteArray), .bool false, .int .i64 0, .slice none 0 0] : List Value))).toArray]) (by kernel_rfl) en17 (c17 w0 w _ _ hI (hT.mono (Hp.le_trans (Hp.le_trans (Hp.le_trans (Hp.le_trans hle13 hle27) hle42) hle75) hle88)) 0 (⟨#[]⟩ : ByteArray) (⟨#[]⟩ : ByteArray) false 0 none 0 ([] : List ByteArray) (RdS.nil _ _ _ _ _ (Nat.zero_le _)) _ hc90) ?_)
                          rintro e w ⟨rfl, hI⟩
                          refine ⟨_, rfl, ?_⟩
                          refine OpsT.pures (r := []) [52, 53, 54] [0] (S' := [(0, .bool (!y91))]) (by kernel_rfl) ?_
                          refine OpsT.done ?_
                          have hI := hI.drop
                          have hI := hI.drop
                          have hI := hI.drop
                          have e := someS h1
                          subst e
                          exact Qn.thenJ fun a ha => ⟨!y91, Z87, rfl, ha.keep [0] (by kernel_rfl), hI, (Hp.le_trans hle75 hle88)⟩
                        · rw [if_neg hb89] at h1
                          have hb89 : (seq y79 (⟨#[120]⟩ : ByteArray)) = false := by simpa using hb89
                          refine OpsT.keep [79] (S' := [(79, .bool false)]) (by (try simp only [hb89]); kernel_rfl) ?_
                          refine OpsT.pures (r := []) [50, 51, 52, 53, 54] [0] (S' := [(0, .bool false)]) (by kernel_rfl) ?_
                          refine OpsT.done ?_
                          have hI := hI.drop
                          have hI := hI.drop
                          have hI := hI.drop
                          have e := someS h1
                          subst e
                          exact Qn.thenJ fun a ha => ⟨false, Z87, rfl, ha.keep [0] (by kernel_rfl), hI, (Hp.le_trans hle75 hle88)⟩
                      · rw [if_neg hb76] at h1
                        have hb76 : (seq y67 (⟨#[]⟩ : ByteArray)) = false := by simpa using hb76
                        refine OpsT.keep [4, 73] (S' := [(4, .pointer (some ⟨b43, 0, none⟩)), (73, .bool false)]) (by (try simp only [hb76]); kernel_rfl) ?_
                        refine OpsT.pures (r := []) [44, 45, 46, 47, 48, 49, 50, 51, 52, 53, 54] [0] (S' := [(0, .bool false)]) (by kernel_rfl) ?_
                        refine OpsT.done ?_
                        have hI := hI.drop
                        have hI := hI.drop
                        have hI := hI.drop
                        have e := someS h1
                        subst e
                        exact Qn.thenJ fun a ha => ⟨false, Z74, rfl, ha.keep [0] (by kernel_rfl), hI, hle75⟩
                    · rw [if_neg hb63] at h1
                      have hb63 : y62 = false := by simpa using hb63
                      refine OpsT.keep [4, 67] (S' := [(4, .pointer (some ⟨b43, 0, none⟩)), (67, .bool false)]) (by (try simp only [hb63]); kernel_rfl) ?_
                      refine OpsT.pures (r := []) [38, 39, 40, 41, 42, 43, 44, 45, 46, 47, 48, 49, 50, 51, 52, 53, 54] [0] (S' := [(0, .bool false)]) (by kernel_rfl) ?_
                      refine OpsT.done ?_
                      have hI := hI.drop
                      have hI := hI.drop
                      have hI := hI.drop
                      have e := someS h1
                      subst e
                      exact Qn.thenJ fun a ha => ⟨false, Z41, rfl, ha.keep [0] (by kernel_rfl), hI, (Hp.le_refl _)⟩
                  · rw [if_neg hb60] at h1
                    have hb60 : y59 = false := by simpa using hb60
                    refine OpsT.keep [4, 62] (S' := [(4, .pointer (some ⟨b43, 0, none⟩)), (62, .bool false)]) (by (try simp only [hb60]); kernel_rfl) ?_
                    refine OpsT.pures (r := []) [33, 34, 35, 36, 37, 38, 39, 40, 41, 42, 43, 44, 45, 46, 47, 48, 49, 50, 51, 52, 53, 54] [0] (S' := [(0, .bool false)]) (by kernel_rfl) ?_
                    refine OpsT.done ?_
                    have hI := hI.drop
                    have hI := hI.drop
                    have hI := hI.drop
                    have e := someS h1
                    subst e
                    exact Qn.thenJ fun a ha => ⟨false, Z41, rfl, ha.keep [0] (by kernel_rfl), hI, (Hp.le_refl _)⟩
                · rw [if_neg hb57] at h1
                  have hb57 : (y47 == 0) = false := by simpa using hb57
                  refine OpsT.keep [4, 58] (S' := [(4, .pointer (some ⟨b43, 0, none⟩)), (58, .bool false)]) (by (try simp only [hb57]); kernel_rfl) ?_
                  refine OpsT.pures (r := []) [29, 30, 31, 32, 33, 34, 35, 36, 37, 38, 39, 40, 41, 42, 43, 44, 45, 46, 47, 48, 49, 50, 51, 52, 53, 54] [0] (S' := [(0, .bool false)]) (by kernel_rfl) ?_
                  refine OpsT.done ?_
                  have hI := hI.drop
                  have hI := hI.drop
                  have hI := hI.drop
                  have e := someS h1
                  subst e
                  exact Qn.thenJ fun a ha => ⟨false, Z41, rfl, ha.keep [0] (by kernel_rfl), hI, (Hp.le_refl _)⟩
              · rw [if_neg hb56] at h1
                have hb56 : (seq y46 (⟨#[98, 99]⟩ : ByteArray)) = false := by simpa using hb56
                refine OpsT.keep [4, 8, 54] (S' := [(4, .pointer (some ⟨b43, 0, none⟩)), (8, .int .i64 y47), (54, .bool false)]) (by (try simp only [hb56]); kernel_rfl) ?_
                refine OpsT.pures (r := []) [25, 26, 27, 28, 29, 30, 31, 32, 33, 34, 35, 36, 37, 38, 39, 40, 41, 42, 43, 44, 45, 46, 47, 48, 49, 50, 51, 52, 53, 54] [0] (S' := [(0, .bool false)]) (by kernel_rfl) ?_
                refine OpsT.done ?_
                have hI := hI.drop
                have hI := hI.drop
                have hI := hI.drop
                have e := someS h1
                subst e
                exact Qn.thenJ fun a ha => ⟨false, Z41, rfl, ha.keep [0] (by kernel_rfl), hI, (Hp.le_refl _)⟩
            · rw [if_neg hb55] at h1
              have hb55 : (eq_ApiEvent y38 (ApiEvent.mk 1 1 (⟨#[]⟩ : ByteArray) 0 1 (List.replicate 32 (0 : Int)))) = false := by simpa using hb55
              refine OpsT.keep [4, 7, 8, 50] (S' := [(4, .pointer (some ⟨b43, 0, none⟩)), (7, .string y46), (8, .int .i64 y47), (50, .bool false)]) (by (try simp only [hb55]); kernel_rfl) ?_
              refine OpsT.pures (r := []) [21, 22, 23, 24, 25, 26, 27, 28, 29, 30, 31, 32, 33, 34, 35, 36, 37, 38, 39, 40, 41, 42, 43, 44, 45, 46, 47, 48, 49, 50, 51, 52, 53, 54] [0] (S' := [(0, .bool false)]) (by kernel_rfl) ?_
              refine OpsT.done ?_
              have hI := hI.drop
              have hI := hI.drop
              have hI := hI.drop
              have e := someS h1
              subst e
              exact Qn.thenJ fun a ha => ⟨false, Z41, rfl, ha.keep [0] (by kernel_rfl), hI, (Hp.le_refl _)⟩
          · rw [if_neg hb54] at h1
            have hb54 : (seq y31 (⟨#[97, 98, 99]⟩ : ByteArray)) = false := by simpa using hb54
            refine OpsT.keep [4, 5, 7, 8, 45] (S' := [(4, .pointer (some ⟨b43, 0, none⟩)), (5, .pointer (some ⟨b44, 0, none⟩)), (7, .string y46), (8, .int .i64 y47), (45, .bool false)]) (by (try simp only [hb54]); kernel_rfl) ?_
            refine OpsT.pures (r := []) [16, 17, 18, 19, 20, 21, 22, 23, 24, 25, 26, 27, 28, 29, 30, 31, 32, 33, 34, 35, 36, 37, 38, 39, 40, 41, 42, 43, 44, 45, 46, 47, 48, 49, 50, 51, 52, 53, 54] [0] (S' := [(0, .bool false)]) (by kernel_rfl) ?_
            refine OpsT.done ?_
            have hI := hI.drop
            have hI := hI.drop
            have hI := hI.drop
            have e := someS h1
            subst e
            exact Qn.thenJ fun a ha => ⟨false, Z41, rfl, ha.keep [0] (by kernel_rfl), hI, (Hp.le_refl _)⟩
        · rw [if_neg hb53] at h1
          have hb53 : (y40 == 0) = false := by simpa using hb53
          refine OpsT.keep [4, 5, 7, 8, 40] (S' := [(4, .pointer (some ⟨b43, 0, none⟩)), (5, .pointer (some ⟨b44, 0, none⟩)), (7, .string y46), (8, .int .i64 y47), (40, .bool false)]) (by (try simp only [hb53]); kernel_rfl) ?_
          refine OpsT.pures (r := []) [11, 12, 13, 14, 15, 16, 17, 18, 19, 20, 21, 22, 23, 24, 25, 26, 27, 28, 29, 30, 31, 32, 33, 34, 35, 36, 37, 38, 39, 40, 41, 42, 43, 44, 45, 46, 47, 48, 49, 50, 51, 52, 53, 54] [0] (S' := [(0, .bool false)]) (by kernel_rfl) ?_
          refine OpsT.done ?_
          have hI := hI.drop
          have hI := hI.drop
          have hI := hI.drop
          have e := someS h1
          subst e
          exact Qn.thenJ fun a ha => ⟨false, Z41, rfl, ha.keep [0] (by kernel_rfl), hI, (Hp.le_refl _)⟩
      · rw [if_neg hb52] at h1
        have hb52 : (y25 == 0) = false := by simpa using hb52
        refine OpsT.keep [4, 5, 6, 7, 8, 36] (S' := [(4, .pointer (some ⟨b43, 0, none⟩)), (5, .pointer (some ⟨b44, 0, none⟩)), (6, .int .i64 y40), (7, .string y46), (8, .int .i64 y47), (36, .bool false)]) (by (try simp only [hb52]); kernel_rfl) ?_
        refine OpsT.pures (r := []) [7, 8, 9, 10, 11, 12, 13, 14, 15, 16, 17, 18, 19, 20, 21, 22, 23, 24, 25, 26, 27, 28, 29, 30, 31, 32, 33, 34, 35, 36, 37, 38, 39, 40, 41, 42, 43, 44, 45, 46, 47, 48, 49, 50, 51, 52, 53, 54] [0] (S' := [(0, .bool false)]) (by kernel_rfl) ?_
        refine OpsT.done ?_
        have hI := hI.drop
        have hI := hI.drop
        have hI := hI.drop
        have e := someS h1
        subst e
        exact Qn.thenJ fun a ha => ⟨false, Z41, rfl, ha.keep [0] (by kernel_rfl), hI, (Hp.le_refl _)⟩
    · rw [if_neg hb51] at h1
      have hb51 : (y10 == 0) = false := by simpa using hb51
      refine OpsT.keep [3, 4, 5, 6, 7, 8, 32] (S' := [(3, .int .i64 y25), (4, .pointer (some ⟨b43, 0, none⟩)), (5, .pointer (some ⟨b44, 0, none⟩)), (6, .int .i64 y40), (7, .string y46), (8, .int .i64 y47), (32, .bool false)]) (by (try simp only [hb51]); kernel_rfl) ?_
      refine OpsT.pures (r := []) [3, 4, 5, 6, 7, 8, 9, 10, 11, 12, 13, 14, 15, 16, 17, 18, 19, 20, 21, 22, 23, 24, 25, 26, 27, 28, 29, 30, 31, 32, 33, 34, 35, 36, 37, 38, 39, 40, 41, 42, 43, 44, 45, 46, 47, 48, 49, 50, 51, 52, 53, 54] [0] (S' := [(0, .bool false)]) (by kernel_rfl) ?_
      refine OpsT.done ?_
      have hI := hI.drop
      have hI := hI.drop
      have hI := hI.drop
      have e := someS h1
      subst e
      exact Qn.thenJ fun a ha => ⟨false, Z41, rfl, ha.keep [0] (by kernel_rfl), hI, (Hp.le_refl _)⟩
  ·
    rintro a w ⟨x50, Z48, rfl, ha, hI, hle49⟩
    try dsimp only at h0
    refine CodT.of ?_ ha
    refine CodT.ret ?_
    have e := someS h0
    subst e
    refine Qn.keep [0] (S' := [(0, .bool x50)]) (by kernel_rfl) ?_
    exact post_ret (v := .bool x50) (fun a ha => RunRes.run (vs := [.bool x50]) (.tmp (t := 0) (by kernel_rfl) .nil) ha (by kernel_rfl)) ⟨rfl, hI.weaken (Hp.le_trans (Hp.le_trans (Hp.le_trans hle13 hle27) hle42) hle49)⟩
set_option maxRecDepth 100000 in
set_option maxHeartbeats 4000000 in
/-- cenotaph/cenotaphlaw07.Few -/
theorem c10 (w0 w : World) (Z : Hp) (A : HP) (hI : Inv w0 Z w A) (hT : Tabs Z) (a0_ID : Int) (a0_Name : ByteArray) (a0_Data : ByteArray) (a0_Sealed : Bool) (a0_Until : Int) (A_a0_Holds : Option Addr) (c_a0_Holds : Nat) (a0_Holds : (List ByteArray)) (hr_a0_Holds : RdS Z cS 1 A_a0_Holds c_a0_Holds a0_Holds) (r : Bool) (h0 : law07_Few a0_ID a0_Name a0_Data a0_Sealed a0_Until a0_Holds = some r) :
    Calls prog 10 #[.agg ((([.int .i64 a0_ID, .string a0_Name, .string a0_Data, .bool a0_Sealed, .int .i64 a0_Until, .slice A_a0_Holds a0_Holds.length c_a0_Holds] : List Value))).toArray] w (fun e w' => e = .returned (.bool r) ∧ Inv w0 Z w' A) := by
  have e4 := calls_intro (R := (fun e w' => e = .returned (.bool r) ∧ Inv w0 Z w' A)) (w := w) (args := [.agg ((([.int .i64 a0_ID, .string a0_Name, .string a0_Data, .bool a0_Sealed, .int .i64 a0_Until, .slice A_a0_Holds a0_Holds.length c_a0_Holds] : List Value))).toArray]) (fn := Go.Proofs.Tryd.f10) 38 Go.Proofs.Tryd.func10 (by rfl) Go.Proofs.Tryd.ntmps10 (by kernel_rfl)
  refine e4 ?_
  clear e4
  unfold law07_Few at h0
  refine CodT.seq ?_
  refine CodT.regionL [0, 1] (by kernel_rfl) ?_
  refine OpsT.cons (Does.boxL (d := 1) (T := 24) (v := .agg ((([.int .i64 a0_ID, .string a0_Name, .string a0_Data, .bool a0_Sealed, .int .i64 a0_Until, .slice A_a0_Holds a0_Holds.length c_a0_Holds] : List Value))).toArray) ((([.int .i64 a0_ID, .string a0_Name, .string a0_Data, .bool a0_Sealed, .int .i64 a0_Until, .slice A_a0_Holds a0_Holds.length c_a0_Holds] : List Value))) (by kernel_rfl) hI (by kernel_rfl) ?_)
  intro b1 w hI
  refine OpsT.pures (r := []) [1] [1] (S' := [(1, .pointer (some ⟨b1, 0, none⟩))]) (by kernel_rfl) ?_
  refine OpsT.done ?_
  refine Qn.then ?_
  refine CodT.seq ?_
  refine CodT.seq ?_
  refine CodT.regionL [0] (by kernel_rfl) ?_
  refine OpsT.pures (r := []) [0] [1, 3] (S' := [(1, .pointer (some ⟨b1, 0, none⟩)), (3, .int .i64 0)]) (by kernel_rfl) ?_
  refine OpsT.done ?_
  refine Qn.then ?_
  obtain ⟨r1, h1, h0⟩ := bindS h0
  refine CodT.meet1 (fun a w => .inr () = r1 ∧ Fr 38 [(1, .pointer (some ⟨b1, 0, none⟩))] a ∧ Inv w0 Z w (star (pt b1 (.cells ((([.int .i64 a0_ID, .string a0_Name, .string a0_Data, .bool a0_Sealed, .int .i64 a0_Until, .slice A_a0_Holds a0_Holds.length c_a0_Holds] : List Value))).toArray 24 (0, 0))) A)) ?_ ?_
  ·
    refine CodT.block ?_
    refine (fun a ha => wp_loopN (fun k a w => ∃ (x2 : Int), law07_Few.l0 a0_Holds k x2 = some r1 ∧ Fr 38 [(1, .pointer (some ⟨b1, 0, none⟩)), (3, .int .i64 x2)] a ∧ Inv w0 Z w (star (pt b1 (.cells ((([.int .i64 a0_ID, .string a0_Name, .string a0_Data, .bool a0_Sealed, .int .i64 a0_Until, .slice A_a0_Holds a0_Holds.length c_a0_Holds] : List Value))).toArray 24 (0, 0))) A)) ?_ FU a w ⟨0, h1, ha.keep [1, 3] (by kernel_rfl), hI⟩)
    clear h1 hI
    rintro k a w ⟨x2, h1, ha, hI⟩
    rcases k with _ | k
    · cases h1
    simp only [law07_Few.l0] at h1
    refine CodT.of ?_ ha
    refine CodT.seq ?_
    obtain ⟨r2, h2, h1⟩ := bindS h1
    refine CodT.meet (fun a w => ∃ (x3 : Bool), x3 = r2 ∧ Fr 38 [(1, .pointer (some ⟨b1, 0, none⟩)), (3, .int .i64 x2), (12, .bool x3)] a ∧ Inv w0 Z w (star (pt b1 (.cells ((([.int .i64 a0_ID, .string a0_Name, .string a0_Data, .bool a0_Sealed, .int .i64 a0_Until, .slice A_a0_Holds a0_Holds.length c_a0_Holds] : List Value))).toArray 24 (0, 0))) A)) ?_ ?_
    ·
      refine CodT.regionL [0, 1, 2, 3, 4, 5, 6, 7, 8] (by kernel_rfl) ?_
      refine OpsT.pures (r := [2, 3, 4, 5, 6, 7, 8]) [0, 1] [1, 3, 4, 5] (S' := [(1, .pointer (some ⟨b1, 0, none⟩)), (3, .int .i64 x2), (4, .int .i64 x2), (5, .pointer (some ⟨b1, 5, none⟩))]) (by kernel_rfl) ?_
      refine OpsT.cons (Does.yi (Yl.load (d := 6) (T := 22) (v := .slice A_a0_Holds a0_Holds.length c_a0_Holds) (by kernel_rfl) (ldB ty22 (l := (([.int .i64 a0_ID, .string a0_Name, .string a0_Data, .bool a0_Sealed, .int .i64 a0_Until, .slice A_a0_Holds a0_Holds.length c_a0_Holds] : List Value))) (o := 5) (v := .slice A_a0_Holds a0_Holds.length c_a0_Holds) (ent_refl _) (by kernel_rfl))) hI ?_)
      refine OpsT.pures (r := [6, 7, 8]) [3, 4, 5] [1, 3, 9] (S' := [(1, .pointer (some ⟨b1, 0, none⟩)), (3, .int .i64 x2), (9, .bool (decide (x2 < (a0_Holds.length : Int))))]) (by kernel_rfl) ?_
      by_cases hb4 : (decide (x2 < (a0_Holds.length : Int))) = true
      · rw [if_pos hb4] at h2
        refine OpsT.keep [1, 3, 9] (S' := [(1, .pointer (some ⟨b1, 0, none⟩)), (3, .int .i64 x2), (9, .bool true)]) (by (try simp only [hb4]); kernel_rfl) ?_
        refine OpsT.pures (r := []) [6, 7, 8] [1, 3, 12] (S' := [(1, .pointer (some ⟨b1, 0, none⟩)), (3, .int .i64 x2), (12, .bool (decide (x2 ≤ 200)))]) (by kernel_rfl) ?_
        refine OpsT.done ?_
        have e := someS h2
        subst e
        exact Qn.thenJ fun a ha => ⟨decide (x2 ≤ 200), rfl, ha.keep [1, 3, 12] (by kernel_rfl), hI⟩
      · rw [if_neg hb4] at h2
        have hb4 : (decide (x2 < (a0_Holds.length : Int))) = false := by simpa using hb4
        refine OpsT.keep [1, 3, 9] (S' := [(1, .pointer (some ⟨b1, 0, none⟩)), (3, .int .i64 x2), (9, .bool false)]) (by (try simp only [hb4]); kernel_rfl) ?_
        refine OpsT.pures (r := []) [6, 7, 8] [1, 3, 12] (S' := [(1, .pointer (some ⟨b1, 0, none⟩)), (3, .int .i64 x2), (12, .bool false)]) (by kernel_rfl) ?_
        refine OpsT.done ?_
        have e := someS h2
        subst e
        exact Qn.thenJ fun a ha => ⟨false, rfl, ha.keep [1, 3, 12] (by kernel_rfl), hI⟩
    ·
      rintro a w ⟨x3, rfl, ha, hI⟩
      try dsimp only at h1
      refine CodT.of ?_ ha
      by_cases hb5 : x3 = true
      · rw [if_pos hb5] at h1
        refine CodT.yes' (b := x3) (by kernel_rfl) hb5 ?_
        refine CodT.skip ?_
        refine Qn.then ?_
        refine CodT.seq ?_
        refine CodT.block ?_
        refine CodT.seq ?_
        refine CodT.regionL [0, 1, 2, 3, 4, 5, 6] (by kernel_rfl) ?_
        refine OpsT.pures (r := [1, 2, 3, 4, 5, 6]) [0] [1, 3, 15] (S' := [(1, .pointer (some ⟨b1, 0, none⟩)), (3, .int .i64 x2), (15, .pointer (some ⟨b1, 5, none⟩))]) (by kernel_rfl) ?_
        refine OpsT.cons (Does.yi (Yl.load (d := 16) (T := 22) (v := .slice A_a0_Holds a0_Holds.length c_a0_Holds) (by kernel_rfl) (ldB ty22 (l := (([.int .i64 a0_ID, .string a0_Name, .string a0_Data, .bool a0_Sealed, .int .i64 a0_Until, .slice A_a0_Holds a0_Holds.length c_a0_Holds] : List Value))) (o := 5) (v := .slice A_a0_Holds a0_Holds.length c_a0_Holds) (ent_refl _) (by kernel_rfl))) hI ?_)
        refine OpsT.pures (r := [3, 4, 5, 6]) [2] [1, 3, 16, 17] (S' := [(1, .pointer (some ⟨b1, 0, none⟩)), (3, .int .i64 x2), (16, .slice A_a0_Holds a0_Holds.length c_a0_Holds), (17, .int .i64 x2)]) (by kernel_rfl) ?_
        obtain ⟨hg6, h1⟩ := guardS h1
        obtain ⟨g7, o11, hA8, hr9, hl10⟩ := RdS.get hr_a0_Holds hg6.1 hg6.2
        refine OpsT.cons (Does.yi (Yl.indexSlice (d := 18) (T := 22) (cc := c_a0_Holds) (k := .i64) (j := x2) (g := g7) (o := o11) (by kernel_rfl) Go.Proofs.Tryd.underlying22 ty9 hA8 hg6.1 hg6.2) hI ?_)
        refine OpsT.cons (Does.yi (Yl.load (d := 19) (T := 9) (v := .string (gt a0_Holds x2)) (by kernel_rfl) (ldR ty9 (v := .string (gt a0_Holds x2)) 0 (fun w hC => hr9 w0 w _ hC) (by kernel_rfl))) hI ?_)
        refine OpsT.pures (r := []) [5, 6] [1, 3, 21] (S' := [(1, .pointer (some ⟨b1, 0, none⟩)), (3, .int .i64 x2), (21, .bool (decide (((gt a0_Holds x2).size : Int) > 200)))]) (by kernel_rfl) ?_
        refine OpsT.done ?_
        refine Qn.then ?_
        by_cases hb12 : (decide (((gt a0_Holds x2).size : Int) > 200)) = true
        · rw [if_pos hb12] at h1
          refine CodT.yes' (b := decide (((gt a0_Holds x2).size : Int) > 200)) (by kernel_rfl) hb12 ?_
          refine CodT.seq ?_
          refine CodT.regionL [0] (by kernel_rfl) ?_
          refine OpsT.pures (r := []) [0] [2] (S' := [(2, .bool false)]) (by kernel_rfl) ?_
          refine OpsT.done ?_
          refine Qn.then ?_
          refine CodT.ret ?_
          refine Qn.block_ret ?_
          refine Qn.ret_then ?_
          refine Qn.ret_then ?_
          refine Qn.block_ret ?_
          refine Qn.ret_then ?_
          refine Qn.ret_then ?_
          have hI := hI.drop
          have e := someS h1
          subst e
          try dsimp only at h0
          have e := someS h0
          subst e
          refine Qn.keep [2] (S' := [(2, .bool false)]) (by kernel_rfl) ?_
          exact post_ret (v := .bool false) (fun a ha => RunRes.run (vs := [.bool false]) (.tmp (t := 2) (by kernel_rfl) .nil) ha (by kernel_rfl)) ⟨rfl, hI⟩
        · rw [if_neg hb12] at h1
          refine CodT.no' (b := decide (((gt a0_Holds x2).size : Int) > 200)) (by kernel_rfl) (by simpa using hb12) ?_
          refine CodT.skip ?_
          refine Qn.block_normal ?_
          refine Qn.then ?_
          refine CodT.regionL [0, 1, 2] (by kernel_rfl) ?_
          refine OpsT.pures (r := []) [0, 1, 2] [1, 3] (S' := [(1, .pointer (some ⟨b1, 0, none⟩)), (3, .int .i64 (wi64 (x2 + 1)))]) (by kernel_rfl) ?_
          refine OpsT.done ?_
          exact Qn.thenJ fun a ha => ⟨k, Nat.lt_succ_self k, wi64 (x2 + 1), h1, ha.keep [1, 3] (by kernel_rfl), hI⟩
      · rw [if_neg hb5] at h1
        refine CodT.no' (b := x3) (by kernel_rfl) (by simpa using hb5) ?_
        refine CodT.exit ?_
        refine Qn.exit_then ?_
        refine Qn.exit_then ?_
        refine Qn.block ?_
        have e := someS h1
        subst e
        exact Qn.thenJ fun a ha => ⟨rfl, ha.keep [1] (by kernel_rfl), hI⟩
  ·
    rintro a w ⟨rfl, ha, hI⟩
    try dsimp only at h0
    refine Qn.of ?_ ha
    refine Qn.then ?_
    obtain ⟨r1, h1, h0⟩ := bindS h0
    refine CodT.meet (fun a w => ∃ (x13 : Bool), x13 = r1 ∧ Fr 38 [(2, .bool x13)] a ∧ Inv w0 Z w A) ?_ ?_
    ·
      refine CodT.regionL [0, 1, 2, 3, 4, 5, 6, 7, 8, 9, 10, 11, 12, 13, 14, 15, 16] (by kernel_rfl) ?_
      refine OpsT.pures (r := [1, 2, 3, 4, 5, 6, 7, 8, 9, 10, 11, 12, 13, 14, 15, 16]) [0] [1, 22] (S' := [(1, .pointer (some ⟨b1, 0, none⟩)), (22, .pointer (some ⟨b1, 5, none⟩))]) (by kernel_rfl) ?_
      refine OpsT.cons (Does.yi (Yl.load (d := 23) (T := 22) (v := .slice A_a0_Holds a0_Holds.length c_a0_Holds) (by kernel_rfl) (ldB ty22 (l := (([.int .i64 a0_ID, .string a0_Name, .string a0_Data, .bool a0_Sealed, .int .i64 a0_Until, .slice A_a0_Holds a0_Holds.length c_a0_Holds] : List Value))) (o := 5) (v := .slice A_a0_Holds a0_Holds.length c_a0_Holds) (ent_refl _) (by kernel_rfl))) hI ?_)
      refine OpsT.pures (r := [5, 6, 7, 8, 9, 10, 11, 12, 13, 14, 15, 16]) [2, 3, 4] [1, 26] (S' := [(1, .pointer (some ⟨b1, 0, none⟩)), (26, .bool (decide ((a0_Holds.length : Int) ≤ 200)))]) (by kernel_rfl) ?_
      by_cases hb14 : (decide ((a0_Holds.length : Int) ≤ 200)) = true
      · rw [if_pos hb14] at h1
        refine OpsT.keep [1, 26] (S' := [(1, .pointer (some ⟨b1, 0, none⟩)), (26, .bool true)]) (by (try simp only [hb14]); kernel_rfl) ?_
        refine OpsT.pures (r := [6, 7, 8, 9, 10, 11, 12, 13, 14, 15, 16]) [5] [1, 26, 27] (S' := [(1, .pointer (some ⟨b1, 0, none⟩)), (26, .bool true), (27, .pointer (some ⟨b1, 2, none⟩))]) (by kernel_rfl) ?_
        refine OpsT.cons (Does.yi (Yl.load (d := 28) (T := 9) (v := .string a0_Data) (by kernel_rfl) (ldB ty9 (l := (([.int .i64 a0_ID, .string a0_Name, .string a0_Data, .bool a0_Sealed, .int .i64 a0_Until, .slice A_a0_Holds a0_Holds.length c_a0_Holds] : List Value))) (o := 2) (v := .string a0_Data) (ent_refl _) (by kernel_rfl))) hI ?_)
        refine OpsT.pures (r := [11, 12, 13, 14, 15, 16]) [7, 8, 9, 10] [1, 32] (S' := [(1, .pointer (some ⟨b1, 0, none⟩)), (32, .bool (decide ((a0_Data.size : Int) ≤ 2000)))]) (by kernel_rfl) ?_
        by_cases hb15 : (decide ((a0_Data.size : Int) ≤ 2000)) = true
        · rw [if_pos hb15] at h1
          refine OpsT.keep [1, 32] (S' := [(1, .pointer (some ⟨b1, 0, none⟩)), (32, .bool true)]) (by (try simp only [hb15]); kernel_rfl) ?_
          refine OpsT.pures (r := [12, 13, 14, 15, 16]) [11] [32, 33] (S' := [(32, .bool true), (33, .pointer (some ⟨b1, 1, none⟩))]) (by kernel_rfl) ?_
          refine OpsT.cons (Does.yi (Yl.load (d := 34) (T := 9) (v := .string a0_Name) (by kernel_rfl) (ldB ty9 (l := (([.int .i64 a0_ID, .string a0_Name, .string a0_Data, .bool a0_Sealed, .int .i64 a0_Until, .slice A_a0_Holds a0_Holds.length c_a0_Holds] : List Value))) (o := 1) (v := .string a0_Name) (ent_refl _) (by kernel_rfl))) hI ?_)
          refine OpsT.pures (r := []) [13, 14, 15, 16] [2] (S' := [(2, .bool (decide ((a0_Name.size : Int) ≤ 200)))]) (by kernel_rfl) ?_
          refine OpsT.done ?_
          have hI := hI.drop
          have e := someS h1
          subst e
          exact Qn.thenJ fun a ha => ⟨decide ((a0_Name.size : Int) ≤ 200), rfl, ha.keep [2] (by kernel_rfl), hI⟩
        · rw [if_neg hb15] at h1
          have hb15 : (decide ((a0_Data.size : Int) ≤ 2000)) = false := by simpa using hb15
          refine OpsT.keep [1, 32] (S' := [(1, .pointer (some ⟨b1, 0, none⟩)), (32, .bool false)]) (by (try simp only [hb15]); kernel_rfl) ?_
          refine OpsT.pures (r := []) [11, 12, 13, 14, 15, 16] [2] (S' := [(2, .bool false)]) (by kernel_rfl) ?_
          refine OpsT.done ?_
          have hI := hI.drop
          have e := someS h1
          subst e
          exact Qn.thenJ fun a ha => ⟨false, rfl, ha.keep [2] (by kernel_rfl), hI⟩
      · rw [if_neg hb14] at h1
        have hb14 : (decide ((a0_Holds.length : Int) ≤ 200)) = false := by simpa using hb14
        refine OpsT.keep [1, 26] (S' := [(1, .pointer (some ⟨b1, 0, none⟩)), (26, .bool false)]) (by (try simp only [hb14]); kernel_rfl) ?_
        refine OpsT.pures (r := []) [5, 6, 7, 8, 9, 10, 11, 12, 13, 14, 15, 16] [2] (S' := [(2, .bool false)]) (by kernel_rfl) ?_
        refine OpsT.done ?_
        have hI := hI.drop
        have e := someS h1
        subst e
        exact Qn.thenJ fun a ha => ⟨false, rfl, ha.keep [2] (by kernel_rfl), hI⟩
    ·
      rintro a w ⟨x13, rfl, ha, hI⟩
      try dsimp only at h0
      refine CodT.of ?_ ha
      refine CodT.ret ?_
      have e := someS h0
      subst e
      refine Qn.keep [2] (S' := [(2, .bool x13)]) (by kernel_rfl) ?_
      exact post_ret (v := .bool x13) (fun a ha => RunRes.run (vs := [.bool x13]) (.tmp (t := 2) (by kernel_rfl) .nil) ha (by kernel_rfl)) ⟨rfl, hI⟩
set_option maxRecDepth 100000 in
set_option maxHeartbeats 4000000 in
/-- cenotaph/cenotaphref03.Rune -/
theorem c53 (w0 w : World) (Z : Hp) (A : HP) (hI : Inv w0 Z w A) (hT : Tabs Z) (a0 : ByteArray) (r : (Int × Int)) (h0 : ref03_Rune a0 = some r) :
    Calls prog 53 #[.string a0] w (fun e w' => e = .returned (.tuple #[.int .i64 r.1, .int .i64 r.2]) ∧ Inv w0 Z w' A) := by
  have e4 := calls_intro (R := (fun e w' => e = .returned (.tuple #[.int .i64 r.1, .int .i64 r.2]) ∧ Inv w0 Z w' A)) (w := w) (args := [.string a0]) (fn := Go.Proofs.Tryd.f53) 85 Go.Proofs.Tryd.func53 (by rfl) Go.Proofs.Tryd.ntmps53 (by kernel_rfl)
  refine e4 ?_
  clear e4
  unfold ref03_Rune at h0
  refine CodT.seq ?_
  refine CodT.regionL [0, 1] (by kernel_rfl) ?_
  refine OpsT.pures (r := []) [0, 1] [0] (S' := [(0, .string a0)]) (by kernel_rfl) ?_
  refine OpsT.done ?_
  refine Qn.then ?_
  refine CodT.seq ?_
  refine CodT.regionL [0, 1, 2, 3] (by kernel_rfl) ?_
  refine OpsT.pures (r := [1, 2, 3]) [0] [0, 10] (S' := [(0, .string a0), (10, .string a0)]) (by kernel_rfl) ?_
  obtain ⟨hg1, h0⟩ := guardS h0
  refine OpsT.cons (Does.yi (Yl.indexStr (d := 11) (T := 9) (k := .i64) (j := 0) (s := a0) (by kernel_rfl) Go.Proofs.Tryd.underlying9 hg1.1 hg1.2) hI ?_)
  refine OpsT.pures (r := []) [2, 3] [0, 4] (S' := [(0, .string a0), (4, .int .i64 (wi64 (bt a0 0)))]) (by kernel_rfl) ?_
  refine OpsT.done ?_
  refine Qn.then ?_
  refine CodT.seq ?_
  refine CodT.seq ?_
  refine CodT.regionL [0, 1] (by kernel_rfl) ?_
  refine OpsT.pures (r := []) [0, 1] [0, 4, 14] (S' := [(0, .string a0), (4, .int .i64 (wi64 (bt a0 0))), (14, .bool (decide ((wi64 (bt a0 0)) < 128)))]) (by kernel_rfl) ?_
  refine OpsT.done ?_
  refine Qn.then ?_
  by_cases hb2 : (decide ((wi64 (bt a0 0)) < 128)) = true
  · rw [if_pos hb2] at h0
    refine CodT.yes' (b := decide ((wi64 (bt a0 0)) < 128)) (by kernel_rfl) hb2 ?_
    refine CodT.seq ?_
    refine CodT.regionL [0, 1, 2] (by kernel_rfl) ?_
    refine OpsT.pures (r := []) [0, 1, 2] [2, 3] (S' := [(2, .int .i64 (wi64 (bt a0 0))), (3, .int .i64 1)]) (by kernel_rfl) ?_
    refine OpsT.done ?_
    refine Qn.then ?_
    refine CodT.ret ?_
    refine Qn.ret_then ?_
    have e := someS h0
    subst e
    refine Qn.keep [2, 3] (S' := [(2, .int .i64 (wi64 (bt a0 0))), (3, .int .i64 1)]) (by kernel_rfl) ?_
    exact post_ret (v := .tuple #[.int .i64 (wi64 (bt a0 0)), .int .i64 1]) (fun a ha => RunRes.run (vs := [.int .i64 (wi64 (bt a0 0)), .int .i64 1]) (.tmp (t := 2) (by kernel_rfl) (.tmp (t := 3) (by kernel_rfl) .nil)) ha (by kernel_rfl)) ⟨rfl, hI⟩
  · rw [if_neg hb2] at h0
    refine CodT.no' (b := decide ((wi64 (bt a0 0)) < 128)) (by kernel_rfl) (by simpa using hb2) ?_
    refine CodT.skip ?_
    refine Qn.then ?_
    refine CodT.seq ?_
    refine CodT.regionL [0] (by kernel_rfl) ?_
    refine OpsT.pures (r := []) [0] [0, 4, 5] (S' := [(0, .string a0), (4, .int .i64 (wi64 (bt a0 0))), (5, .int .i64 0)]) (by kernel_rfl) ?_
    refine OpsT.done ?_
    refine Qn.then ?_
    refine CodT.seq ?_
    refine CodT.regionL [0] (by kernel_rfl) ?_
    refine OpsT.pures (r := []) [0] [0, 4, 5, 6] (S' := [(0, .string a0), (4, .int .i64 (wi64 (bt a0 0))), (5, .int .i64 0), (6, .int .i64 0)]) (by kernel_rfl) ?_
    refine OpsT.done ?_
    refine Qn.then ?_
    refine CodT.seq ?_
    refine CodT.regionL [0] (by kernel_rfl) ?_
    refine OpsT.pures (r := []) [0] [0, 4, 5, 6, 7] (S' := [(0, .string a0), (4, .int .i64 (wi64 (bt a0 0))), (5, .int .i64 0), (6, .int .i64 0), (7, .int .i64 0)]) (by kernel_rfl) ?_
    refine OpsT.done ?_
    refine Qn.then ?_
    obtain ⟨r1, h1, h0⟩ := bindS h0
    refine CodT.meet (fun a w => ∃ (x3 : Int) (x4 : Int) (x5 : Int), (x3, x4, x5) = r1 ∧ Fr 85 [(0, .string a0), (5, .int .i64 x3), (6, .int .i64 x4), (7, .int .i64 x5)] a ∧ Inv w0 Z w A) ?_ ?_
    ·
      obtain ⟨r2, h2, h1⟩ := bindS h1
      refine CodT.meet (fun a w => ∃ (x6 : Bool), x6 = r2 ∧ Fr 85 [(0, .string a0), (4, .int .i64 (wi64 (bt a0 0))), (5, .int .i64 0), (6, .int .i64 0), (7, .int .i64 0), (21, .bool x6)] a ∧ Inv w0 Z w A) ?_ ?_
      ·
        refine CodT.regionL [0, 1, 2, 3, 4, 5] (by kernel_rfl) ?_
        refine OpsT.pures (r := [3, 4, 5]) [0, 1, 2] [0, 4, 5, 6, 7, 18] (S' := [(0, .string a0), (4, .int .i64 (wi64 (bt a0 0))), (5, .int .i64 0), (6, .int .i64 0), (7, .int .i64 0), (18, .bool (decide ((wi64 (bt a0 0)) ≥ 194)))]) (by kernel_rfl) ?_
        by_cases hb7 : (decide ((wi64 (bt a0 0)) ≥ 194)) = true
        · rw [if_pos hb7] at h2
          refine OpsT.keep [0, 4, 5, 6, 7, 18] (S' := [(0, .string a0), (4, .int .i64 (wi64 (bt a0 0))), (5, .int .i64 0), (6, .int .i64 0), (7, .int .i64 0), (18, .bool true)]) (by (try simp only [hb7]); kernel_rfl) ?_
          refine OpsT.pures (r := []) [3, 4, 5] [0, 4, 5, 6, 7, 21] (S' := [(0, .string a0), (4, .int .i64 (wi64 (bt a0 0))), (5, .int .i64 0), (6, .int .i64 0), (7, .int .i64 0), (21, .bool (decide ((wi64 (bt a0 0)) < 224)))]) (by kernel_rfl) ?_
          refine OpsT.done ?_
          have e := someS h2
          subst e
          exact Qn.thenJ fun a ha => ⟨decide ((wi64 (bt a0 0)) < 224), rfl, ha.keep [0, 4, 5, 6, 7, 21] (by kernel_rfl), hI⟩
        · rw [if_neg hb7] at h2
          have hb7 : (decide ((wi64 (bt a0 0)) ≥ 194)) = false := by simpa using hb7
          refine OpsT.keep [0, 4, 5, 6, 7, 18] (S' := [(0, .string a0), (4, .int .i64 (wi64 (bt a0 0))), (5, .int .i64 0), (6, .int .i64 0), (7, .int .i64 0), (18, .bool false)]) (by (try simp only [hb7]); kernel_rfl) ?_
          refine OpsT.pures (r := []) [3, 4, 5] [0, 4, 5, 6, 7, 21] (S' := [(0, .string a0), (4, .int .i64 (wi64 (bt a0 0))), (5, .int .i64 0), (6, .int .i64 0), (7, .int .i64 0), (21, .bool false)]) (by kernel_rfl) ?_
          refine OpsT.done ?_
          have e := someS h2
          subst e
          exact Qn.thenJ fun a ha => ⟨false, rfl, ha.keep [0, 4, 5, 6, 7, 21] (by kernel_rfl), hI⟩
      ·
        rintro a w ⟨x6, rfl, ha, hI⟩
        try dsimp only at h1
        refine CodT.of ?_ ha
        by_cases hb8 : x6 = true
        · rw [if_pos hb8] at h1
          refine CodT.yes' (b := x6) (by kernel_rfl) hb8 ?_
          refine CodT.seq ?_
          refine CodT.regionL [0] (by kernel_rfl) ?_
          refine OpsT.pures (r := []) [0] [0, 4, 5] (S' := [(0, .string a0), (4, .int .i64 (wi64 (bt a0 0))), (5, .int .i64 2)]) (by kernel_rfl) ?_
          refine OpsT.done ?_
          refine Qn.then ?_
          refine CodT.seq ?_
          refine CodT.regionL [0] (by kernel_rfl) ?_
          refine OpsT.pures (r := []) [0] [0, 4, 5, 6] (S' := [(0, .string a0), (4, .int .i64 (wi64 (bt a0 0))), (5, .int .i64 2), (6, .int .i64 128)]) (by kernel_rfl) ?_
          refine OpsT.done ?_
          refine Qn.then ?_
          refine CodT.regionL [0, 1, 2] (by kernel_rfl) ?_
          refine OpsT.pures (r := []) [0, 1, 2] [0, 5, 6, 7] (S' := [(0, .string a0), (5, .int .i64 2), (6, .int .i64 128), (7, .int .i64 (wi64 ((wi64 (bt a0 0)) - 192)))]) (by kernel_rfl) ?_
          refine OpsT.done ?_
          have e := someS h1
          subst e
          exact Qn.thenJ fun a ha => ⟨2, 128, wi64 ((wi64 (bt a0 0)) - 192), rfl, ha.keep [0, 5, 6, 7] (by kernel_rfl), hI⟩
        · rw [if_neg hb8] at h1
          refine CodT.no' (b := x6) (by kernel_rfl) (by simpa using hb8) ?_
          obtain ⟨r2, h2, h1⟩ := bindS h1
          refine CodT.meet (fun a w => ∃ (x9 : Bool), x9 = r2 ∧ Fr 85 [(0, .string a0), (4, .int .i64 (wi64 (bt a0 0))), (5, .int .i64 0), (6, .int .i64 0), (7, .int .i64 0), (29, .bool x9)] a ∧ Inv w0 Z w A) ?_ ?_
          ·
            refine CodT.regionL [0, 1, 2, 3, 4, 5] (by kernel_rfl) ?_
            refine OpsT.pures (r := [3, 4, 5]) [0, 1, 2] [0, 4, 5, 6, 7, 26] (S' := [(0, .string a0), (4, .int .i64 (wi64 (bt a0 0))), (5, .int .i64 0), (6, .int .i64 0), (7, .int .i64 0), (26, .bool (decide ((wi64 (bt a0 0)) ≥ 224)))]) (by kernel_rfl) ?_
            by_cases hb10 : (decide ((wi64 (bt a0 0)) ≥ 224)) = true
            · rw [if_pos hb10] at h2
              refine OpsT.keep [0, 4, 5, 6, 7, 26] (S' := [(0, .string a0), (4, .int .i64 (wi64 (bt a0 0))), (5, .int .i64 0), (6, .int .i64 0), (7, .int .i64 0), (26, .bool true)]) (by (try simp only [hb10]); kernel_rfl) ?_
              refine OpsT.pures (r := []) [3, 4, 5] [0, 4, 5, 6, 7, 29] (S' := [(0, .string a0), (4, .int .i64 (wi64 (bt a0 0))), (5, .int .i64 0), (6, .int .i64 0), (7, .int .i64 0), (29, .bool (decide ((wi64 (bt a0 0)) < 240)))]) (by kernel_rfl) ?_
              refine OpsT.done ?_
              have e := someS h2
              subst e
              exact Qn.thenJ fun a ha => ⟨decide ((wi64 (bt a0 0)) < 240), rfl, ha.keep [0, 4, 5, 6, 7, 29] (by kernel_rfl), hI⟩
            · rw [if_neg hb10] at h2
              have hb10 : (decide ((wi64 (bt a0 0)) ≥ 224)) = false := by simpa using hb10
              refine OpsT.keep [0, 4, 5, 6, 7, 26] (S' := [(0, .string a0), (4, .int .i64 (wi64 (bt a0 0))), (5, .int .i64 0), (6, .int .i64 0), (7, .int .i64 0), (26, .bool false)]) (by (try simp only [hb10]); kernel_rfl) ?_
              refine OpsT.pures (r := []) [3, 4, 5] [0, 4, 5, 6, 7, 29] (S' := [(0, .string a0), (4, .int .i64 (wi64 (bt a0 0))), (5, .int .i64 0), (6, .int .i64 0), (7, .int .i64 0), (29, .bool false)]) (by kernel_rfl) ?_
              refine OpsT.done ?_
              have e := someS h2
              subst e
              exact Qn.thenJ fun a ha => ⟨false, rfl, ha.keep [0, 4, 5, 6, 7, 29] (by kernel_rfl), hI⟩
          ·
            rintro a w ⟨x9, rfl, ha, hI⟩
            try dsimp only at h1
            refine CodT.of ?_ ha
            by_cases hb11 : x9 = true
            · rw [if_pos hb11] at h1
              refine CodT.yes' (b := x9) (by kernel_rfl) hb11 ?_
              refine CodT.seq ?_
              refine CodT.regionL [0] (by kernel_rfl) ?_
              refine OpsT.pures (r := []) [0] [0, 4, 5] (S' := [(0, .string a0), (4, .int .i64 (wi64 (bt a0 0))), (5, .int .i64 3)]) (by kernel_rfl) ?_
              refine OpsT.done ?_
              refine Qn.then ?_
              refine CodT.seq ?_
              refine CodT.regionL [0] (by kernel_rfl) ?_
              refine OpsT.pures (r := []) [0] [0, 4, 5, 6] (S' := [(0, .string a0), (4, .int .i64 (wi64 (bt a0 0))), (5, .int .i64 3), (6, .int .i64 2048)]) (by kernel_rfl) ?_
              refine OpsT.done ?_
              refine Qn.then ?_
              refine CodT.regionL [0, 1, 2] (by kernel_rfl) ?_
              refine OpsT.pures (r := []) [0, 1, 2] [0, 5, 6, 7] (S' := [(0, .string a0), (5, .int .i64 3), (6, .int .i64 2048), (7, .int .i64 (wi64 ((wi64 (bt a0 0)) - 224)))]) (by kernel_rfl) ?_
              refine OpsT.done ?_
              have e := someS h1
              subst e
              exact Qn.thenJ fun a ha => ⟨3, 2048, wi64 ((wi64 (bt a0 0)) - 224), rfl, ha.keep [0, 5, 6, 7] (by kernel_rfl), hI⟩
            · rw [if_neg hb11] at h1
              refine CodT.no' (b := x9) (by kernel_rfl) (by simpa using hb11) ?_
              obtain ⟨r2, h2, h1⟩ := bindS h1
              refine CodT.meet (fun a w => ∃ (x12 : Bool), x12 = r2 ∧ Fr 85 [(0, .string a0), (4, .int .i64 (wi64 (bt a0 0))), (5, .int .i64 0), (6, .int .i64 0), (7, .int .i64 0), (37, .bool x12)] a ∧ Inv w0 Z w A) ?_ ?_
              ·
                refine CodT.regionL [0, 1, 2, 3, 4, 5] (by kernel_rfl) ?_
                refine OpsT.pures (r := [3, 4, 5]) [0, 1, 2] [0, 4, 5, 6, 7, 34] (S' := [(0, .string a0), (4, .int .i64 (wi64 (bt a0 0))), (5, .int .i64 0), (6, .int .i64 0), (7, .int .i64 0), (34, .bool (decide ((wi64 (bt a0 0)) ≥ 240)))]) (by kernel_rfl) ?_
                by_cases hb13 : (decide ((wi64 (bt a0 0)) ≥ 240)) = true
                · rw [if_pos hb13] at h2
                  refine OpsT.keep [0, 4, 5, 6, 7, 34] (S' := [(0, .string a0), (4, .int .i64 (wi64 (bt a0 0))), (5, .int .i64 0), (6, .int .i64 0), (7, .int .i64 0), (34, .bool true)]) (by (try simp only [hb13]); kernel_rfl) ?_
                  refine OpsT.pures (r := []) [3, 4, 5] [0, 4, 5, 6, 7, 37] (S' := [(0, .string a0), (4, .int .i64 (wi64 (bt a0 0))), (5, .int .i64 0), (6, .int .i64 0), (7, .int .i64 0), (37, .bool (decide ((wi64 (bt a0 0)) < 245)))]) (by kernel_rfl) ?_
                  refine OpsT.done ?_
                  have e := someS h2
                  subst e
                  exact Qn.thenJ fun a ha => ⟨decide ((wi64 (bt a0 0)) < 245), rfl, ha.keep [0, 4, 5, 6, 7, 37] (by kernel_rfl), hI⟩
                · rw [if_neg hb13] at h2
                  have hb13 : (decide ((wi64 (bt a0 0)) ≥ 240)) = false := by simpa using hb13
                  refine OpsT.keep [0, 4, 5, 6, 7, 34] (S' := [(0, .string a0), (4, .int .i64 (wi64 (bt a0 0))), (5, .int .i64 0), (6, .int .i64 0), (7, .int .i64 0), (34, .bool false)]) (by (try simp only [hb13]); kernel_rfl) ?_
                  refine OpsT.pures (r := []) [3, 4, 5] [0, 4, 5, 6, 7, 37] (S' := [(0, .string a0), (4, .int .i64 (wi64 (bt a0 0))), (5, .int .i64 0), (6, .int .i64 0), (7, .int .i64 0), (37, .bool false)]) (by kernel_rfl) ?_
                  refine OpsT.done ?_
                  have e := someS h2
                  subst e
                  exact Qn.thenJ fun a ha => ⟨false, rfl, ha.keep [0, 4, 5, 6, 7, 37] (by kernel_rfl), hI⟩
              ·
                rintro a w ⟨x12, rfl, ha, hI⟩
                try dsimp only at h1
                refine CodT.of ?_ ha
                by_cases hb14 : x12 = true
                · rw [if_pos hb14] at h1
                  refine CodT.yes' (b := x12) (by kernel_rfl) hb14 ?_
                  refine CodT.seq ?_
                  refine CodT.regionL [0] (by kernel_rfl) ?_
                  refine OpsT.pures (r := []) [0] [0, 4, 5] (S' := [(0, .string a0), (4, .int .i64 (wi64 (bt a0 0))), (5, .int .i64 4)]) (by kernel_rfl) ?_
                  refine OpsT.done ?_
                  refine Qn.then ?_
                  refine CodT.seq ?_
                  refine CodT.regionL [0] (by kernel_rfl) ?_
                  refine OpsT.pures (r := []) [0] [0, 4, 5, 6] (S' := [(0, .string a0), (4, .int .i64 (wi64 (bt a0 0))), (5, .int .i64 4), (6, .int .i64 65536)]) (by kernel_rfl) ?_
                  refine OpsT.done ?_
                  refine Qn.then ?_
                  refine CodT.regionL [0, 1, 2] (by kernel_rfl) ?_
                  refine OpsT.pures (r := []) [0, 1, 2] [0, 5, 6, 7] (S' := [(0, .string a0), (5, .int .i64 4), (6, .int .i64 65536), (7, .int .i64 (wi64 ((wi64 (bt a0 0)) - 240)))]) (by kernel_rfl) ?_
                  refine OpsT.done ?_
                  have e := someS h1
                  subst e
                  exact Qn.thenJ fun a ha => ⟨4, 65536, wi64 ((wi64 (bt a0 0)) - 240), rfl, ha.keep [0, 5, 6, 7] (by kernel_rfl), hI⟩
                · rw [if_neg hb14] at h1
                  refine CodT.no' (b := x12) (by kernel_rfl) (by simpa using hb14) ?_
                  refine CodT.skip ?_
                  have e := someS h1
                  subst e
                  exact Qn.thenJ fun a ha => ⟨0, 0, 0, rfl, ha.keep [0, 5, 6, 7] (by kernel_rfl), hI⟩
    ·
      rintro a w ⟨x3, x4, x5, rfl, ha, hI⟩
      try dsimp only at h0
      refine CodT.of ?_ ha
      refine CodT.seq ?_
      obtain ⟨r1, h1, h0⟩ := bindS h0
      refine CodT.meet (fun a w => ∃ (x15 : Bool), x15 = r1 ∧ Fr 85 [(0, .string a0), (5, .int .i64 x3), (6, .int .i64 x4), (7, .int .i64 x5), (47, .bool x15)] a ∧ Inv w0 Z w A) ?_ ?_
      ·
        refine CodT.regionL [0, 1, 2, 3, 4, 5, 6, 7] (by kernel_rfl) ?_
        refine OpsT.pures (r := [3, 4, 5, 6, 7]) [0, 1, 2] [0, 5, 6, 7, 42] (S' := [(0, .string a0), (5, .int .i64 x3), (6, .int .i64 x4), (7, .int .i64 x5), (42, .bool (x3 == 0))]) (by kernel_rfl) ?_
        by_cases hb16 : (x3 == 0) = true
        · rw [if_pos hb16] at h1
          refine OpsT.keep [0, 5, 6, 7, 42] (S' := [(0, .string a0), (5, .int .i64 x3), (6, .int .i64 x4), (7, .int .i64 x5), (42, .bool true)]) (by (try simp only [hb16]); kernel_rfl) ?_
          refine OpsT.pures (r := []) [3, 4, 5, 6, 7] [0, 5, 6, 7, 47] (S' := [(0, .string a0), (5, .int .i64 x3), (6, .int .i64 x4), (7, .int .i64 x5), (47, .bool true)]) (by kernel_rfl) ?_
          refine OpsT.done ?_
          have e := someS h1
          subst e
          exact Qn.thenJ fun a ha => ⟨true, rfl, ha.keep [0, 5, 6, 7, 47] (by kernel_rfl), hI⟩
        · rw [if_neg hb16] at h1
          have hb16 : (x3 == 0) = false := by simpa using hb16
          refine OpsT.keep [0, 5, 6, 7, 42] (S' := [(0, .string a0), (5, .int .i64 x3), (6, .int .i64 x4), (7, .int .i64 x5), (42, .bool false)]) (by (try simp only [hb16]); kernel_rfl) ?_
          refine OpsT.pures (r := []) [3, 4, 5, 6, 7] [0, 5, 6, 7, 47] (S' := [(0, .string a0), (5, .int .i64 x3), (6, .int .i64 x4), (7, .int .i64 x5), (47, .bool (decide ((a0.size : Int) < x3)))]) (by kernel_rfl) ?_
          refine OpsT.done ?_
          have e := someS h1
          subst e
          exact Qn.thenJ fun a ha => ⟨decide ((a0.size : Int) < x3), rfl, ha.keep [0, 5, 6, 7, 47] (by kernel_rfl), hI⟩
      ·
        rintro a w ⟨x15, rfl, ha, hI⟩
        try dsimp only at h0
        refine CodT.of ?_ ha
        by_cases hb17 : x15 = true
        · rw [if_pos hb17] at h0
          refine CodT.yes' (b := x15) (by kernel_rfl) hb17 ?_
          refine CodT.seq ?_
          refine CodT.regionL [0, 1] (by kernel_rfl) ?_
          refine OpsT.pures (r := []) [0, 1] [2, 3] (S' := [(2, .int .i64 (-1)), (3, .int .i64 1)]) (by kernel_rfl) ?_
          refine OpsT.done ?_
          refine Qn.then ?_
          refine CodT.ret ?_
          refine Qn.ret_then ?_
          have e := someS h0
          subst e
          refine Qn.keep [2, 3] (S' := [(2, .int .i64 (-1)), (3, .int .i64 1)]) (by kernel_rfl) ?_
          exact post_ret (v := .tuple #[.int .i64 (-1), .int .i64 1]) (fun a ha => RunRes.run (vs := [.int .i64 (-1), .int .i64 1]) (.tmp (t := 2) (by kernel_rfl) (.tmp (t := 3) (by kernel_rfl) .nil)) ha (by kernel_rfl)) ⟨rfl, hI⟩
        · rw [if_neg hb17] at h0
          refine CodT.no' (b := x15) (by kernel_rfl) (by simpa using hb17) ?_
          refine CodT.skip ?_
          refine Qn.then ?_
          refine CodT.seq ?_
          refine CodT.seq ?_
          refine CodT.regionL [0] (by kernel_rfl) ?_
          refine OpsT.pures (r := []) [0] [0, 5, 6, 7, 8] (S' := [(0, .string a0), (5, .int .i64 x3), (6, .int .i64 x4), (7, .int .i64 x5), (8, .int .i64 1)]) (by kernel_rfl) ?_
          refine OpsT.done ?_
          refine Qn.then ?_
          obtain ⟨r1, h1, h0⟩ := bindS h0
          refine CodT.meet1 (fun a w => ∃ (x18 : Int), .inr x18 = r1 ∧ Fr 85 [(5, .int .i64 x3), (6, .int .i64 x4), (7, .int .i64 x18)] a ∧ Inv w0 Z w A) ?_ ?_
          ·
            refine CodT.block ?_
            refine (fun a ha => wp_loopN (fun k a w => ∃ (x19 : Int) (x20 : Int), ref03_Rune.l0 x3 a0 k x19 x20 = some r1 ∧ Fr 85 [(0, .string a0), (5, .int .i64 x3), (6, .int .i64 x4), (7, .int .i64 x19), (8, .int .i64 x20)] a ∧ Inv w0 Z w A) ?_ FU a w ⟨x5, 1, h1, ha.keep [0, 5, 6, 7, 8] (by kernel_rfl), hI⟩)
            clear h1 hI
            rintro k a w ⟨x19, x20, h1, ha, hI⟩
            rcases k with _ | k
            · cases h1
            simp only [ref03_Rune.l0] at h1
            refine CodT.of ?_ ha
            refine CodT.seq ?_
            refine CodT.seq ?_
            refine CodT.regionL [0, 1, 2] (by kernel_rfl) ?_
            refine OpsT.pures (r := []) [0, 1, 2] [0, 5, 6, 7, 8, 50] (S' := [(0, .string a0), (5, .int .i64 x3), (6, .int .i64 x4), (7, .int .i64 x19), (8, .int .i64 x20), (50, .bool (decide (x20 < x3)))]) (by kernel_rfl) ?_
            refine OpsT.done ?_
            refine Qn.then ?_
            by_cases hb21 : (decide (x20 < x3)) = true
            · rw [if_pos hb21] at h1
              refine CodT.yes' (b := decide (x20 < x3)) (by kernel_rfl) hb21 ?_
              refine CodT.skip ?_
              refine Qn.then ?_
              refine CodT.seq ?_
              refine CodT.block ?_
              refine CodT.seq ?_
              refine CodT.regionL [0, 1, 2, 3, 4] (by kernel_rfl) ?_
              refine OpsT.pures (r := [2, 3, 4]) [0, 1] [0, 5, 6, 7, 8, 53, 54] (S' := [(0, .string a0), (5, .int .i64 x3), (6, .int .i64 x4), (7, .int .i64 x19), (8, .int .i64 x20), (53, .string a0), (54, .int .i64 x20)]) (by kernel_rfl) ?_
              obtain ⟨hg22, h1⟩ := guardS h1
              refine OpsT.cons (Does.yi (Yl.indexStr (d := 55) (T := 9) (k := .i64) (j := x20) (s := a0) (by kernel_rfl) Go.Proofs.Tryd.underlying9 hg22.1 hg22.2) hI ?_)
              refine OpsT.pures (r := []) [3, 4] [0, 5, 6, 7, 8, 9] (S' := [(0, .string a0), (5, .int .i64 x3), (6, .int .i64 x4), (7, .int .i64 x19), (8, .int .i64 x20), (9, .int .i64 (wi64 (bt a0 x20)))]) (by kernel_rfl) ?_
              refine OpsT.done ?_
              refine Qn.then ?_
              refine CodT.seq ?_
              obtain ⟨r2, h2, h1⟩ := bindS h1
              refine CodT.meet (fun a w => ∃ (x23 : Bool), x23 = r2 ∧ Fr 85 [(0, .string a0), (5, .int .i64 x3), (6, .int .i64 x4), (7, .int .i64 x19), (8, .int .i64 x20), (9, .int .i64 (wi64 (bt a0 x20))), (62, .bool x23)] a ∧ Inv w0 Z w A) ?_ ?_
              ·
                refine CodT.regionL [0, 1, 2, 3, 4, 5] (by kernel_rfl) ?_
                refine OpsT.pures (r := [3, 4, 5]) [0, 1, 2] [0, 5, 6, 7, 8, 9, 59] (S' := [(0, .string a0), (5, .int .i64 x3), (6, .int .i64 x4), (7, .int .i64 x19), (8, .int .i64 x20), (9, .int .i64 (wi64 (bt a0 x20))), (59, .bool (decide ((wi64 (bt a0 x20)) < 128)))]) (by kernel_rfl) ?_
                by_cases hb24 : (decide ((wi64 (bt a0 x20)) < 128)) = true
                · rw [if_pos hb24] at h2
                  refine OpsT.keep [0, 5, 6, 7, 8, 9, 59] (S' := [(0, .string a0), (5, .int .i64 x3), (6, .int .i64 x4), (7, .int .i64 x19), (8, .int .i64 x20), (9, .int .i64 (wi64 (bt a0 x20))), (59, .bool true)]) (by (try simp only [hb24]); kernel_rfl) ?_
                  refine OpsT.pures (r := []) [3, 4, 5] [0, 5, 6, 7, 8, 9, 62] (S' := [(0, .string a0), (5, .int .i64 x3), (6, .int .i64 x4), (7, .int .i64 x19), (8, .int .i64 x20), (9, .int .i64 (wi64 (bt a0 x20))), (62, .bool true)]) (by kernel_rfl) ?_
                  refine OpsT.done ?_
                  have e := someS h2
                  subst e
                  exact Qn.thenJ fun a ha => ⟨true, rfl, ha.keep [0, 5, 6, 7, 8, 9, 62] (by kernel_rfl), hI⟩
                · rw [if_neg hb24] at h2
                  have hb24 : (decide ((wi64 (bt a0 x20)) < 128)) = false := by simpa using hb24
                  refine OpsT.keep [0, 5, 6, 7, 8, 9, 59] (S' := [(0, .string a0), (5, .int .i64 x3), (6, .int .i64 x4), (7, .int .i64 x19), (8, .int .i64 x20), (9, .int .i64 (wi64 (bt a0 x20))), (59, .bool false)]) (by (try simp only [hb24]); kernel_rfl) ?_
                  refine OpsT.pures (r := []) [3, 4, 5] [0, 5, 6, 7, 8, 9, 62] (S' := [(0, .string a0), (5, .int .i64 x3), (6, .int .i64 x4), (7, .int .i64 x19), (8, .int .i64 x20), (9, .int .i64 (wi64 (bt a0 x20))), (62, .bool (decide ((wi64 (bt a0 x20)) > 191)))]) (by kernel_rfl) ?_
                  refine OpsT.done ?_
                  have e := someS h2
                  subst e
                  exact Qn.thenJ fun a ha => ⟨decide ((wi64 (bt a0 x20)) > 191), rfl, ha.keep [0, 5, 6, 7, 8, 9, 62] (by kernel_rfl), hI⟩
              ·
                rintro a w ⟨x23, rfl, ha, hI⟩
                try dsimp only at h1
                refine CodT.of ?_ ha
                by_cases hb25 : x23 = true
                · rw [if_pos hb25] at h1
                  refine CodT.yes' (b := x23) (by kernel_rfl) hb25 ?_
                  refine CodT.seq ?_
                  refine CodT.regionL [0, 1] (by kernel_rfl) ?_
                  refine OpsT.pures (r := []) [0, 1] [2, 3] (S' := [(2, .int .i64 (-1)), (3, .int .i64 1)]) (by kernel_rfl) ?_
                  refine OpsT.done ?_
                  refine Qn.then ?_
                  refine CodT.ret ?_
                  refine Qn.ret_then ?_
                  refine Qn.block_ret ?_
                  refine Qn.ret_then ?_
                  refine Qn.ret_then ?_
                  refine Qn.block_ret ?_
                  refine Qn.ret_then ?_
                  refine Qn.ret_then ?_
                  have e := someS h1
                  subst e
                  try dsimp only at h0
                  have e := someS h0
                  subst e
                  refine Qn.keep [2, 3] (S' := [(2, .int .i64 (-1)), (3, .int .i64 1)]) (by kernel_rfl) ?_
                  exact post_ret (v := .tuple #[.int .i64 (-1), .int .i64 1]) (fun a ha => RunRes.run (vs := [.int .i64 (-1), .int .i64 1]) (.tmp (t := 2) (by kernel_rfl) (.tmp (t := 3) (by kernel_rfl) .nil)) ha (by kernel_rfl)) ⟨rfl, hI⟩
                · rw [if_neg hb25] at h1
                  refine CodT.no' (b := x23) (by kernel_rfl) (by simpa using hb25) ?_
                  refine CodT.skip ?_
                  refine Qn.then ?_
                  refine CodT.regionL [0, 1, 2, 3, 4, 5] (by kernel_rfl) ?_
                  refine OpsT.pures (r := []) [0, 1, 2, 3, 4, 5] [0, 5, 6, 7, 8] (S' := [(0, .string a0), (5, .int .i64 x3), (6, .int .i64 x4), (7, .int .i64 (wi64 ((wi64 ((wi64 (x19 * 64)) + (wi64 (bt a0 x20)))) - 128))), (8, .int .i64 x20)]) (by kernel_rfl) ?_
                  refine OpsT.done ?_
                  refine Qn.block_normal ?_
                  refine Qn.then ?_
                  refine CodT.regionL [0, 1, 2] (by kernel_rfl) ?_
                  refine OpsT.pures (r := []) [0, 1, 2] [0, 5, 6, 7, 8] (S' := [(0, .string a0), (5, .int .i64 x3), (6, .int .i64 x4), (7, .int .i64 (wi64 ((wi64 ((wi64 (x19 * 64)) + (wi64 (bt a0 x20)))) - 128))), (8, .int .i64 (wi64 (x20 + 1)))]) (by kernel_rfl) ?_
                  refine OpsT.done ?_
                  exact Qn.thenJ fun a ha => ⟨k, Nat.lt_succ_self k, wi64 ((wi64 ((wi64 (x19 * 64)) + (wi64 (bt a0 x20)))) - 128), wi64 (x20 + 1), h1, ha.keep [0, 5, 6, 7, 8] (by kernel_rfl), hI⟩
            · rw [if_neg hb21] at h1
              refine CodT.no' (b := decide (x20 < x3)) (by kernel_rfl) (by simpa using hb21) ?_
              refine CodT.exit ?_
              refine Qn.exit_then ?_
              refine Qn.exit_then ?_
              refine Qn.block ?_
              have e := someS h1
              subst e
              exact Qn.thenJ fun a ha => ⟨x19, rfl, ha.keep [5, 6, 7] (by kernel_rfl), hI⟩
          ·
            rintro a w ⟨x18, rfl, ha, hI⟩
            try dsimp only at h0
            refine Qn.of ?_ ha
            refine Qn.then ?_
            refine CodT.seq ?_
            obtain ⟨r1, h1, h0⟩ := bindS h0
            refine CodT.meet (fun a w => ∃ (x26 : Bool), x26 = r1 ∧ Fr 85 [(5, .int .i64 x3), (7, .int .i64 x18), (82, .bool x26)] a ∧ Inv w0 Z w A) ?_ ?_
            ·
              refine CodT.regionL [0, 1, 2, 3, 4, 5, 6, 7, 8, 9, 10, 11, 12, 13, 14] (by kernel_rfl) ?_
              refine OpsT.pures (r := [4, 5, 6, 7, 8, 9, 10, 11, 12, 13, 14]) [0, 1, 2, 3] [5, 7, 71] (S' := [(5, .int .i64 x3), (7, .int .i64 x18), (71, .bool (decide (x18 < x4)))]) (by kernel_rfl) ?_
              by_cases hb27 : (decide (x18 < x4)) = true
              · rw [if_pos hb27] at h1
                refine OpsT.keep [5, 7, 71] (S' := [(5, .int .i64 x3), (7, .int .i64 x18), (71, .bool true)]) (by (try simp only [hb27]); kernel_rfl) ?_
                refine OpsT.pures (r := []) [4, 5, 6, 7, 8, 9, 10, 11, 12, 13, 14] [5, 7, 82] (S' := [(5, .int .i64 x3), (7, .int .i64 x18), (82, .bool true)]) (by kernel_rfl) ?_
                refine OpsT.done ?_
                have e := someS h1
                subst e
                exact Qn.thenJ fun a ha => ⟨true, rfl, ha.keep [5, 7, 82] (by kernel_rfl), hI⟩
              · rw [if_neg hb27] at h1
                have hb27 : (decide (x18 < x4)) = false := by simpa using hb27
                refine OpsT.keep [5, 7, 71] (S' := [(5, .int .i64 x3), (7, .int .i64 x18), (71, .bool false)]) (by (try simp only [hb27]); kernel_rfl) ?_
                refine OpsT.pures (r := [8, 9, 10, 11, 12, 13, 14]) [4, 5, 6, 7] [5, 7, 75] (S' := [(5, .int .i64 x3), (7, .int .i64 x18), (75, .bool (decide (x18 > 1114111)))]) (by kernel_rfl) ?_
                by_cases hb28 : (decide (x18 > 1114111)) = true
                · rw [if_pos hb28] at h1
                  refine OpsT.keep [5, 7, 75] (S' := [(5, .int .i64 x3), (7, .int .i64 x18), (75, .bool true)]) (by (try simp only [hb28]); kernel_rfl) ?_
                  refine OpsT.pures (r := []) [8, 9, 10, 11, 12, 13, 14] [5, 7, 82] (S' := [(5, .int .i64 x3), (7, .int .i64 x18), (82, .bool true)]) (by kernel_rfl) ?_
                  refine OpsT.done ?_
                  have e := someS h1
                  subst e
                  exact Qn.thenJ fun a ha => ⟨true, rfl, ha.keep [5, 7, 82] (by kernel_rfl), hI⟩
                · rw [if_neg hb28] at h1
                  have hb28 : (decide (x18 > 1114111)) = false := by simpa using hb28
                  refine OpsT.keep [5, 7, 75] (S' := [(5, .int .i64 x3), (7, .int .i64 x18), (75, .bool false)]) (by (try simp only [hb28]); kernel_rfl) ?_
                  refine OpsT.pures (r := [11, 12, 13, 14]) [8, 9, 10] [5, 7, 75, 78] (S' := [(5, .int .i64 x3), (7, .int .i64 x18), (75, .bool false), (78, .bool (decide (x18 ≥ 55296)))]) (by kernel_rfl) ?_
                  by_cases hb29 : (decide (x18 ≥ 55296)) = true
                  · rw [if_pos hb29] at h1
                    refine OpsT.keep [5, 7, 75, 78] (S' := [(5, .int .i64 x3), (7, .int .i64 x18), (75, .bool false), (78, .bool true)]) (by (try simp only [hb29]); kernel_rfl) ?_
                    refine OpsT.pures (r := []) [11, 12, 13, 14] [5, 7, 82] (S' := [(5, .int .i64 x3), (7, .int .i64 x18), (82, .bool (decide (x18 ≤ 57343)))]) (by kernel_rfl) ?_
                    refine OpsT.done ?_
                    have e := someS h1
                    subst e
                    exact Qn.thenJ fun a ha => ⟨decide (x18 ≤ 57343), rfl, ha.keep [5, 7, 82] (by kernel_rfl), hI⟩
                  · rw [if_neg hb29] at h1
                    have hb29 : (decide (x18 ≥ 55296)) = false := by simpa using hb29
                    refine OpsT.keep [5, 7, 75, 78] (S' := [(5, .int .i64 x3), (7, .int .i64 x18), (75, .bool false), (78, .bool false)]) (by (try simp only [hb29]); kernel_rfl) ?_
                    refine OpsT.pures (r := []) [11, 12, 13, 14] [5, 7, 82] (S' := [(5, .int .i64 x3), (7, .int .i64 x18), (82, .bool false)]) (by kernel_rfl) ?_
                    refine OpsT.done ?_
                    have e := someS h1
                    subst e
                    exact Qn.thenJ fun a ha => ⟨false, rfl, ha.keep [5, 7, 82] (by kernel_rfl), hI⟩
            ·
              rintro a w ⟨x26, rfl, ha, hI⟩
              try dsimp only at h0
              refine CodT.of ?_ ha
              by_cases hb30 : x26 = true
              · rw [if_pos hb30] at h0
                refine CodT.yes' (b := x26) (by kernel_rfl) hb30 ?_
                refine CodT.seq ?_
                refine CodT.regionL [0, 1] (by kernel_rfl) ?_
                refine OpsT.pures (r := []) [0, 1] [2, 3] (S' := [(2, .int .i64 (-1)), (3, .int .i64 1)]) (by kernel_rfl) ?_
                refine OpsT.done ?_
                refine Qn.then ?_
                refine CodT.ret ?_
                refine Qn.ret_then ?_
                have e := someS h0
                subst e
                refine Qn.keep [2, 3] (S' := [(2, .int .i64 (-1)), (3, .int .i64 1)]) (by kernel_rfl) ?_
                exact post_ret (v := .tuple #[.int .i64 (-1), .int .i64 1]) (fun a ha => RunRes.run (vs := [.int .i64 (-1), .int .i64 1]) (.tmp (t := 2) (by kernel_rfl) (.tmp (t := 3) (by kernel_rfl) .nil)) ha (by kernel_rfl)) ⟨rfl, hI⟩
              · rw [if_neg hb30] at h0
                refine CodT.no' (b := x26) (by kernel_rfl) (by simpa using hb30) ?_
                refine CodT.skip ?_
                refine Qn.then ?_
                refine CodT.seq ?_
                refine CodT.regionL [0, 1, 2, 3] (by kernel_rfl) ?_
                refine OpsT.pures (r := []) [0, 1, 2, 3] [2, 3] (S' := [(2, .int .i64 x18), (3, .int .i64 x3)]) (by kernel_rfl) ?_
                refine OpsT.done ?_
                refine Qn.then ?_
                refine CodT.ret ?_
                have e := someS h0
                subst e
                refine Qn.keep [2, 3] (S' := [(2, .int .i64 x18), (3, .int .i64 x3)]) (by kernel_rfl) ?_
                exact post_ret (v := .tuple #[.int .i64 x18, .int .i64 x3]) (fun a ha => RunRes.run (vs := [.int .i64 x18, .int .i64 x3]) (.tmp (t := 2) (by kernel_rfl) (.tmp (t := 3) (by kernel_rfl) .nil)) ha (by kernel_rfl)) ⟨rfl, hI⟩
set_option maxRecDepth 100000 in
set_option maxHeartbeats 4000000 in
/-- cenotaph/cenotaphref03.Runes -/
theorem c42 (w0 w : World) (Z : Hp) (A : HP) (hI : Inv w0 Z w A) (hT : Tabs Z) (a0 : ByteArray) (r : (List Int)) (h0 : ref03_Runes a0 = some r) :
    Calls prog 42 #[.string a0] w (fun e w' => ∃ (A1 : Option Addr) (c1 : Nat), e = .returned (.slice A1 r.length c1) ∧ Inv w0 Z w' (star (ownS 3 (cI .i64) 1 A1 c1 r) A)) := by
  have e4 := calls_intro (R := (fun e w' => ∃ (A1 : Option Addr) (c1 : Nat), e = .returned (.slice A1 r.length c1) ∧ Inv w0 Z w' (star (ownS 3 (cI .i64) 1 A1 c1 r) A))) (w := w) (args := [.string a0]) (fn := Go.Proofs.Tryd.f42) 33 Go.Proofs.Tryd.func42 (by rfl) Go.Proofs.Tryd.ntmps42 (by kernel_rfl)
  refine e4 ?_
  clear e4
  unfold ref03_Runes at h0
  refine CodT.seq ?_
  refine CodT.regionL [0] (by kernel_rfl) ?_
  refine OpsT.pures (r := []) [0] [0] (S' := [(0, .string a0)]) (by kernel_rfl) ?_
  refine OpsT.done ?_
  refine Qn.then ?_
  refine CodT.seq ?_
  refine CodT.regionL [0] (by kernel_rfl) ?_
  refine OpsT.pures (r := []) [0] [0, 3] (S' := [(0, .string a0), (3, .slice none 0 0)]) (by kernel_rfl) ?_
  refine OpsT.done ?_
  refine Qn.then ?_
  refine CodT.seq ?_
  refine CodT.seq ?_
  refine CodT.regionL [0] (by kernel_rfl) ?_
  refine OpsT.pures (r := []) [0] [0, 3, 4] (S' := [(0, .string a0), (3, .slice none 0 0), (4, .int .i64 0)]) (by kernel_rfl) ?_
  refine OpsT.done ?_
  refine Qn.then ?_
  obtain ⟨r1, h1, h0⟩ := bindS h0
  refine CodT.meet1 (fun a w => ∃ (x1 : (List Int)) (A2 : Option Addr) (cp3 : Nat), x1 = r1 ∧ Fr 33 [(3, .slice A2 x1.length cp3)] a ∧ Inv w0 Z w (star (ownS 3 (cI .i64) 1 A2 cp3 x1) A)) ?_ ?_
  ·
    refine CodT.block ?_
    have hI := ownS_nil (α := Int) hI 3 (cI .i64) 1
    refine (fun a ha => wp_loopN (fun k a w => ∃ (x4 : (List Int)) (x7 : Int) (A5 : Option Addr) (cp6 : Nat), ref03_Runes.l0 a0 k x4 x7 = some r1 ∧ Fr 33 [(0, .string a0), (3, .slice A5 x4.length cp6), (4, .int .i64 x7)] a ∧ Inv w0 Z w (star (ownS 3 (cI .i64) 1 A5 cp6 x4) A)) ?_ FU a w ⟨([] : List Int), 0, none, 0, h1, ha.keep [0, 3, 4] (by kernel_rfl), hI⟩)
    clear h1 hI
    rintro k a w ⟨x4, x7, A5, cp6, h1, ha, hI⟩
    rcases k with _ | k
    · cases h1
    simp only [ref03_Runes.l0] at h1
    refine CodT.of ?_ ha
    refine CodT.seq ?_
    refine CodT.seq ?_
    refine CodT.regionL [0, 1, 2, 3] (by kernel_rfl) ?_
    refine OpsT.pures (r := []) [0, 1, 2, 3] [0, 3, 4, 10] (S' := [(0, .string a0), (3, .slice A5 x4.length cp6), (4, .int .i64 x7), (10, .bool (decide (x7 < (a0.size : Int))))]) (by kernel_rfl) ?_
    refine OpsT.done ?_
    refine Qn.then ?_
    by_cases hb8 : (decide (x7 < (a0.size : Int))) = true
    · rw [if_pos hb8] at h1
      refine CodT.yes' (b := decide (x7 < (a0.size : Int))) (by kernel_rfl) hb8 ?_
      refine CodT.skip ?_
      refine Qn.then ?_
      refine CodT.block ?_
      refine CodT.seq ?_
      refine CodT.regionL [0, 1, 2, 3, 4, 5, 6, 7, 8] (by kernel_rfl) ?_
      refine OpsT.pures (r := [2, 3, 4, 5, 6, 7, 8]) [0, 1] [0, 3, 4, 12, 13] (S' := [(0, .string a0), (3, .slice A5 x4.length cp6), (4, .int .i64 x7), (12, .string a0), (13, .int .i64 x7)]) (by kernel_rfl) ?_
      obtain ⟨hg9, h1⟩ := guardS h1
      refine OpsT.cons (Does.yi (Yl.sliceStr10 (d := 14) (T := 9) (s := a0) (lo := x7) (by kernel_rfl) Go.Proofs.Tryd.underlying9 hg9) hI ?_)
      obtain ⟨⟨y11, y12⟩, hc10, h1⟩ := bindS h1
      try dsimp only at h1
      refine OpsT.cons (Does.call (d := some 15) (n := 53) (vs := [.string (sx a0 x7 (a0.size : Int))]) (by kernel_rfl) en53 (c53 w0 w _ _ hI hT (sx a0 x7 (a0.size : Int)) _ hc10) ?_)
      rintro e w ⟨rfl, hI⟩
      refine ⟨_, rfl, ?_⟩
      refine OpsT.pures (r := []) [4, 5, 6, 7, 8] [0, 3, 4, 5, 6] (S' := [(0, .string a0), (3, .slice A5 x4.length cp6), (4, .int .i64 x7), (5, .int .i64 y11), (6, .int .i64 y12)]) (by kernel_rfl) ?_
      refine OpsT.done ?_
      refine Qn.then ?_
      obtain ⟨r2, h2, h1⟩ := bindS h1
      refine CodT.meet (fun a w => ∃ (x13 : Int), x13 = r2 ∧ Fr 33 [(0, .string a0), (3, .slice A5 x4.length cp6), (4, .int .i64 x7), (5, .int .i64 x13), (6, .int .i64 y12)] a ∧ Inv w0 Z w (star (ownS 3 (cI .i64) 1 A5 cp6 x4) A)) ?_ ?_
      ·
        refine CodT.seq ?_
        refine CodT.regionL [0, 1] (by kernel_rfl) ?_
        refine OpsT.pures (r := []) [0, 1] [0, 3, 4, 5, 6, 19] (S' := [(0, .string a0), (3, .slice A5 x4.length cp6), (4, .int .i64 x7), (5, .int .i64 y11), (6, .int .i64 y12), (19, .bool (decide (y11 < 0)))]) (by kernel_rfl) ?_
        refine OpsT.done ?_
        refine Qn.then ?_
        by_cases hb14 : (decide (y11 < 0)) = true
        · rw [if_pos hb14] at h2
          refine CodT.yes' (b := decide (y11 < 0)) (by kernel_rfl) hb14 ?_
          refine CodT.regionL [0, 1, 2, 3, 4, 5] (by kernel_rfl) ?_
          refine OpsT.pures (r := [2, 3, 4, 5]) [0, 1] [0, 3, 4, 6, 20, 21] (S' := [(0, .string a0), (3, .slice A5 x4.length cp6), (4, .int .i64 x7), (6, .int .i64 y12), (20, .string a0), (21, .int .i64 x7)]) (by kernel_rfl) ?_
          obtain ⟨hg15, h2⟩ := guardS h2
          refine OpsT.cons (Does.yi (Yl.indexStr (d := 22) (T := 9) (k := .i64) (j := x7) (s := a0) (by kernel_rfl) Go.Proofs.Tryd.underlying9 hg15.1 hg15.2) hI ?_)
          refine OpsT.pures (r := []) [3, 4, 5] [0, 3, 4, 5, 6] (S' := [(0, .string a0), (3, .slice A5 x4.length cp6), (4, .int .i64 x7), (5, .int .i64 (wi64 (1114112 + (wi64 (bt a0 x7))))), (6, .int .i64 y12)]) (by kernel_rfl) ?_
          refine OpsT.done ?_
          have e := someS h2
          subst e
          exact Qn.thenJ fun a ha => ⟨wi64 (1114112 + (wi64 (bt a0 x7))), rfl, ha.keep [0, 3, 4, 5, 6] (by kernel_rfl), hI⟩
        · rw [if_neg hb14] at h2
          refine CodT.no' (b := decide (y11 < 0)) (by kernel_rfl) (by simpa using hb14) ?_
          refine CodT.skip ?_
          have e := someS h2
          subst e
          exact Qn.thenJ fun a ha => ⟨y11, rfl, ha.keep [0, 3, 4, 5, 6] (by kernel_rfl), hI⟩
      ·
        rintro a w ⟨x13, rfl, ha, hI⟩
        try dsimp only at h1
        refine CodT.of ?_ ha
        refine CodT.seq ?_
        refine CodT.regionL [0, 1, 2, 3, 4] (by kernel_rfl) ?_
        refine OpsT.pures (r := [2, 3, 4]) [0, 1] [0, 4, 6, 25, 26] (S' := [(0, .string a0), (4, .int .i64 x7), (6, .int .i64 y12), (25, .slice A5 x4.length cp6), (26, .int .i64 x13)]) (by kernel_rfl) ?_
        refine OpsT.cons (Does.buildSlice (en := (cI .i64)) (d := 27) (n := 1) (T := 52) (ps := [(0, .int .i64 x13)]) ([x13] : List Int) (by kernel_rfl) Go.Proofs.Tryd.underlying52 ty3 (by kernel_rfl) (by kernel_rfl) (by kernel_rfl) (by kernel_rfl) (len_all (fun _ => rfl)) hI ?_)
        intro b16 w hI
        obtain ⟨hg17, h1⟩ := guardS h1
        have hI := hI.mono (pick2 _ _ _)
        refine OpsT.cons (Does.append (d := 28) (t := 52) (tx := 52) (ty := 52) (ys := x4) (zs := ([x13] : List Int)) (x := .slice (some ⟨b16, 0, none⟩) (([x13] : List Int).length) 1) (by kernel_rfl) Go.Proofs.Tryd.underlying52 ty3 (by kernel_rfl) hI (src_own Go.Proofs.Tryd.underlying52 (hI.mono (pick2 _ _ _)) (one_flat _ (fun _ => rfl))) (ownS_facts (hI.mono (pick2 _ _ _))).2.2 (by unfold LIM at hg17; omega) hg17 ?_)
        intro A18 cp19 w hI
        refine OpsT.pures (r := []) [4] [0, 3, 4, 6] (S' := [(0, .string a0), (3, .slice A18 ((x4 ++ ([x13] : List Int)).length) cp19), (4, .int .i64 x7), (6, .int .i64 y12)]) (by kernel_rfl) ?_
        refine OpsT.done ?_
        refine Qn.then ?_
        refine CodT.regionL [0, 1, 2, 3] (by kernel_rfl) ?_
        refine OpsT.pures (r := []) [0, 1, 2, 3] [0, 3, 4] (S' := [(0, .string a0), (3, .slice A18 ((x4 ++ ([x13] : List Int)).length) cp19), (4, .int .i64 (wi64 (x7 + y12)))]) (by kernel_rfl) ?_
        refine OpsT.done ?_
        refine Qn.block_normal ?_
        have hI := hI.mono (pick2 _ _ _)
        have hI := hI.drop
        exact Qn.thenJ fun a ha => ⟨k, Nat.lt_succ_self k, x4 ++ ([x13] : List Int), wi64 (x7 + y12), A18, cp19, h1, ha.keep [0, 3, 4] (by kernel_rfl), hI⟩
    · rw [if_neg hb8] at h1
      refine CodT.no' (b := decide (x7 < (a0.size : Int))) (by kernel_rfl) (by simpa using hb8) ?_
      refine CodT.exit ?_
      refine Qn.exit_then ?_
      refine Qn.exit_then ?_
      refine Qn.block ?_
      have e := someS h1
      subst e
      exact Qn.thenJ fun a ha => ⟨x4, A5, cp6, rfl, ha.keep [3] (by kernel_rfl), hI⟩
  ·
    rintro a w ⟨x1, A2, cp3, rfl, ha, hI⟩
    try dsimp only at h0
    refine Qn.of ?_ ha
    refine Qn.then ?_
    refine CodT.seq ?_
    refine CodT.regionL [0, 1] (by kernel_rfl) ?_
    refine OpsT.pures (r := []) [0, 1] [2] (S' := [(2, .slice A2 x1.length cp3)]) (by kernel_rfl) ?_
    refine OpsT.done ?_
    refine Qn.then ?_
    refine CodT.ret ?_
    have e := someS h0
    subst e
    refine Qn.keep [2] (S' := [(2, .slice A2 x1.length cp3)]) (by kernel_rfl) ?_
    exact post_ret (v := .slice A2 x1.length cp3) (fun a ha => RunRes.run (vs := [.slice A2 x1.length cp3]) (.tmp (t := 2) (by kernel_rfl) .nil) ha (by kernel_rfl)) ⟨A2, cp3, rfl, hI⟩
set_option maxRecDepth 100000 in
set_option maxHeartbeats 4000000 in
/-- cenotaph/cenotaphref03.Valid -/
theorem c28 (w0 w : World) (Z : Hp) (A : HP) (hI : Inv w0 Z w A) (hT : Tabs Z) (a0 : ByteArray) (r : Bool) (h0 : ref03_Valid a0 = some r) :
    Calls prog 28 #[.string a0] w (fun e w' => e = .returned (.bool r) ∧ Inv w0 Z w' A) := by
  have e4 := calls_intro (R := (fun e w' => e = .returned (.bool r) ∧ Inv w0 Z w' A)) (w := w) (args := [.string a0]) (fn := Go.Proofs.Tryd.f28) 63 Go.Proofs.Tryd.func28 (by rfl) Go.Proofs.Tryd.ntmps28 (by kernel_rfl)
  refine e4 ?_
  clear e4
  unfold ref03_Valid at h0
  refine CodT.seq ?_
  refine CodT.regionL [0] (by kernel_rfl) ?_
  refine OpsT.pures (r := []) [0] [0] (S' := [(0, .string a0)]) (by kernel_rfl) ?_
  refine OpsT.done ?_
  refine Qn.then ?_
  refine CodT.seq ?_
  refine CodT.regionL [0, 1, 2] (by kernel_rfl) ?_
  refine OpsT.pures (r := [1, 2]) [0] [6] (S' := [(6, .string a0)]) (by kernel_rfl) ?_
  obtain ⟨y2, hc1, h0⟩ := bindS h0
  try dsimp only at h0
  refine OpsT.cons (Does.call (d := some 7) (n := 42) (vs := [.string a0]) (by kernel_rfl) en42 (c42 w0 w _ _ hI hT a0 _ hc1) ?_)
  rintro e w ⟨A3, cp4, rfl, hI⟩
  refine ⟨_, rfl, ?_⟩
  refine OpsT.pures (r := []) [2] [3] (S' := [(3, .slice A3 y2.length cp4)]) (by kernel_rfl) ?_
  refine OpsT.done ?_
  refine Qn.then ?_
  refine CodT.seq ?_
  obtain ⟨r1, h1, h0⟩ := bindS h0
  refine CodT.meet (fun a w => ∃ (x5 : Bool), x5 = r1 ∧ Fr 63 [(3, .slice A3 y2.length cp4), (30, .bool x5)] a ∧ Inv w0 Z w (star (ownS 3 (cI .i64) 1 A3 cp4 y2) A)) ?_ ?_
  ·
    refine CodT.regionL [0, 1, 2, 3, 4, 5, 6, 7, 8, 9, 10, 11, 12, 13, 14, 15, 16, 17, 18, 19, 20, 21, 22] (by kernel_rfl) ?_
    refine OpsT.pures (r := [4, 5, 6, 7, 8, 9, 10, 11, 12, 13, 14, 15, 16, 17, 18, 19, 20, 21, 22]) [0, 1, 2, 3] [3, 11] (S' := [(3, .slice A3 y2.length cp4), (11, .bool (decide ((y2.length : Int) < 1)))]) (by kernel_rfl) ?_
    by_cases hb6 : (decide ((y2.length : Int) < 1)) = true
    · rw [if_pos hb6] at h1
      refine OpsT.keep [3, 11] (S' := [(3, .slice A3 y2.length cp4), (11, .bool true)]) (by (try simp only [hb6]); kernel_rfl) ?_
      refine OpsT.pures (r := []) [4, 5, 6, 7, 8, 9, 10, 11, 12, 13, 14, 15, 16, 17, 18, 19, 20, 21, 22] [3, 30] (S' := [(3, .slice A3 y2.length cp4), (30, .bool true)]) (by kernel_rfl) ?_
      refine OpsT.done ?_
      have e := someS h1
      subst e
      exact Qn.thenJ fun a ha => ⟨true, rfl, ha.keep [3, 30] (by kernel_rfl), hI⟩
    · rw [if_neg hb6] at h1
      have hb6 : (decide ((y2.length : Int) < 1)) = false := by simpa using hb6
      refine OpsT.keep [3, 11] (S' := [(3, .slice A3 y2.length cp4), (11, .bool false)]) (by (try simp only [hb6]); kernel_rfl) ?_
      refine OpsT.pures (r := [9, 10, 11, 12, 13, 14, 15, 16, 17, 18, 19, 20, 21, 22]) [4, 5, 6, 7, 8] [3, 16] (S' := [(3, .slice A3 y2.length cp4), (16, .bool (decide ((y2.length : Int) > 24)))]) (by kernel_rfl) ?_
      by_cases hb7 : (decide ((y2.length : Int) > 24)) = true
      · rw [if_pos hb7] at h1
        refine OpsT.keep [3, 16] (S' := [(3, .slice A3 y2.length cp4), (16, .bool true)]) (by (try simp only [hb7]); kernel_rfl) ?_
        refine OpsT.pures (r := []) [9, 10, 11, 12, 13, 14, 15, 16, 17, 18, 19, 20, 21, 22] [3, 30] (S' := [(3, .slice A3 y2.length cp4), (30, .bool true)]) (by kernel_rfl) ?_
        refine OpsT.done ?_
        have e := someS h1
        subst e
        exact Qn.thenJ fun a ha => ⟨true, rfl, ha.keep [3, 30] (by kernel_rfl), hI⟩
      · rw [if_neg hb7] at h1
        have hb7 : (decide ((y2.length : Int) > 24)) = false := by simpa using hb7
        refine OpsT.keep [3, 16] (S' := [(3, .slice A3 y2.length cp4), (16, .bool false)]) (by (try simp only [hb7]); kernel_rfl) ?_
        refine OpsT.pures (r := [10, 11, 12, 13, 14, 15, 16, 17, 18, 19, 20, 21, 22]) [9] [3, 16, 17] (S' := [(3, .slice A3 y2.length cp4), (16, .bool false), (17, .slice A3 y2.length cp4)]) (by kernel_rfl) ?_
        obtain ⟨hg8, h1⟩ := guardS h1
        obtain ⟨g9, hA10, hr11, hl12⟩ := ownS_get hI hg8.1 hg8.2
        refine OpsT.cons (Does.yi (Yl.indexSlice (d := 18) (T := 52) (cc := cp4) (k := .i64) (j := 0) (g := g9) (o := 0) (by kernel_rfl) Go.Proofs.Tryd.underlying52 ty3 hA10 hg8.1 hg8.2) hI ?_)
        refine OpsT.cons (Does.yi (Yl.load (d := 19) (T := 3) (v := .int .i64 (gt y2 0)) (by kernel_rfl) (ldR ty3 (v := .int .i64 (gt y2 0)) 0 (fun w hC => hr11 w0 w _ hC) (by kernel_rfl))) hI ?_)
        refine OpsT.pures (r := [15, 16, 17, 18, 19, 20, 21, 22]) [12, 13, 14] [3, 22] (S' := [(3, .slice A3 y2.length cp4), (22, .bool ((gt y2 0) == 32))]) (by kernel_rfl) ?_
        by_cases hb13 : ((gt y2 0) == 32) = true
        · rw [if_pos hb13] at h1
          refine OpsT.keep [3, 22] (S' := [(3, .slice A3 y2.length cp4), (22, .bool true)]) (by (try simp only [hb13]); kernel_rfl) ?_
          refine OpsT.pures (r := []) [15, 16, 17, 18, 19, 20, 21, 22] [3, 30] (S' := [(3, .slice A3 y2.length cp4), (30, .bool true)]) (by kernel_rfl) ?_
          refine OpsT.done ?_
          have e := someS h1
          subst e
          exact Qn.thenJ fun a ha => ⟨true, rfl, ha.keep [3, 30] (by kernel_rfl), hI⟩
        · rw [if_neg hb13] at h1
          have hb13 : ((gt y2 0) == 32) = false := by simpa using hb13
          refine OpsT.keep [3, 22] (S' := [(3, .slice A3 y2.length cp4), (22, .bool false)]) (by (try simp only [hb13]); kernel_rfl) ?_
          refine OpsT.pures (r := [19, 20, 21, 22]) [15, 16, 17, 18] [3, 22, 23, 26] (S' := [(3, .slice A3 y2.length cp4), (22, .bool false), (23, .slice A3 y2.length cp4), (26, .int .i64 (wi64 ((y2.length : Int) - 1)))]) (by kernel_rfl) ?_
          obtain ⟨hg14, h1⟩ := guardS h1
          obtain ⟨g15, hA16, hr17, hl18⟩ := ownS_get hI hg14.1 hg14.2
          refine OpsT.cons (Does.yi (Yl.indexSlice (d := 27) (T := 52) (cc := cp4) (k := .i64) (j := wi64 ((y2.length : Int) - 1)) (g := g15) (o := 0) (by kernel_rfl) Go.Proofs.Tryd.underlying52 ty3 hA16 hg14.1 hg14.2) hI ?_)
          refine OpsT.cons (Does.yi (Yl.load (d := 28) (T := 3) (v := .int .i64 (gt y2 (wi64 ((y2.length : Int) - 1)))) (by kernel_rfl) (ldR ty3 (v := .int .i64 (gt y2 (wi64 ((y2.length : Int) - 1)))) 0 (fun w hC => hr17 w0 w _ hC) (by kernel_rfl))) hI ?_)
          refine OpsT.pures (r := []) [21, 22] [3, 30] (S' := [(3, .slice A3 y2.length cp4), (30, .bool ((gt y2 (wi64 ((y2.length : Int) - 1))) == 32))]) (by kernel_rfl) ?_
          refine OpsT.done ?_
          have e := someS h1
          subst e
          exact Qn.thenJ fun a ha => ⟨(gt y2 (wi64 ((y2.length : Int) - 1))) == 32, rfl, ha.keep [3, 30] (by kernel_rfl), hI⟩
  ·
    rintro a w ⟨x5, rfl, ha, hI⟩
    try dsimp only at h0
    refine CodT.of ?_ ha
    by_cases hb19 : x5 = true
    · rw [if_pos hb19] at h0
      refine CodT.yes' (b := x5) (by kernel_rfl) hb19 ?_
      refine CodT.seq ?_
      refine CodT.regionL [0] (by kernel_rfl) ?_
      refine OpsT.pures (r := []) [0] [2] (S' := [(2, .bool false)]) (by kernel_rfl) ?_
      refine OpsT.done ?_
      refine Qn.then ?_
      refine CodT.ret ?_
      refine Qn.ret_then ?_
      have hI := hI.drop
      have e := someS h0
      subst e
      refine Qn.keep [2] (S' := [(2, .bool false)]) (by kernel_rfl) ?_
      exact post_ret (v := .bool false) (fun a ha => RunRes.run (vs := [.bool false]) (.tmp (t := 2) (by kernel_rfl) .nil) ha (by kernel_rfl)) ⟨rfl, hI⟩
    · rw [if_neg hb19] at h0
      refine CodT.no' (b := x5) (by kernel_rfl) (by simpa using hb19) ?_
      refine CodT.skip ?_
      refine Qn.then ?_
      refine CodT.seq ?_
      refine CodT.seq ?_
      refine CodT.regionL [0] (by kernel_rfl) ?_
      refine OpsT.pures (r := []) [0] [3, 4] (S' := [(3, .slice A3 y2.length cp4), (4, .int .i64 0)]) (by kernel_rfl) ?_
      refine OpsT.done ?_
      refine Qn.then ?_
      obtain ⟨r1, h1, h0⟩ := bindS h0
      refine CodT.meet1 (fun a w => .inr () = r1 ∧ Fr 63 [] a ∧ Inv w0 Z w A) ?_ ?_
      ·
        refine CodT.block ?_
        refine (fun a ha => wp_loopN (fun k a w => ∃ (x20 : Int), ref03_Valid.l0 y2 k x20 = some r1 ∧ Fr 63 [(3, .slice A3 y2.length cp4), (4, .int .i64 x20)] a ∧ Inv w0 Z w (star (ownS 3 (cI .i64) 1 A3 cp4 y2) A)) ?_ FU a w ⟨0, h1, ha.keep [3, 4] (by kernel_rfl), hI⟩)
        clear h1 hI
        rintro k a w ⟨x20, h1, ha, hI⟩
        rcases k with _ | k
        · cases h1
        simp only [ref03_Valid.l0] at h1
        refine CodT.of ?_ ha
        refine CodT.seq ?_
        refine CodT.seq ?_
        refine CodT.regionL [0, 1, 2, 3] (by kernel_rfl) ?_
        refine OpsT.pures (r := []) [0, 1, 2, 3] [3, 4, 34] (S' := [(3, .slice A3 y2.length cp4), (4, .int .i64 x20), (34, .bool (decide (x20 < (y2.length : Int))))]) (by kernel_rfl) ?_
        refine OpsT.done ?_
        refine Qn.then ?_
        by_cases hb21 : (decide (x20 < (y2.length : Int))) = true
        · rw [if_pos hb21] at h1
          refine CodT.yes' (b := decide (x20 < (y2.length : Int))) (by kernel_rfl) hb21 ?_
          refine CodT.skip ?_
          refine Qn.then ?_
          refine CodT.seq ?_
          refine CodT.block ?_
          refine CodT.seq ?_
          refine CodT.regionL [0, 1, 2, 3, 4] (by kernel_rfl) ?_
          refine OpsT.pures (r := [2, 3, 4]) [0, 1] [3, 4, 37, 38] (S' := [(3, .slice A3 y2.length cp4), (4, .int .i64 x20), (37, .slice A3 y2.length cp4), (38, .int .i64 x20)]) (by kernel_rfl) ?_
          obtain ⟨hg22, h1⟩ := guardS h1
          obtain ⟨g23, hA24, hr25, hl26⟩ := ownS_get hI hg22.1 hg22.2
          refine OpsT.cons (Does.yi (Yl.indexSlice (d := 39) (T := 52) (cc := cp4) (k := .i64) (j := x20) (g := g23) (o := 0) (by kernel_rfl) Go.Proofs.Tryd.underlying52 ty3 hA24 hg22.1 hg22.2) hI ?_)
          refine OpsT.cons (Does.yi (Yl.load (d := 40) (T := 3) (v := .int .i64 (gt y2 x20)) (by kernel_rfl) (ldR ty3 (v := .int .i64 (gt y2 x20)) 0 (fun w hC => hr25 w0 w _ hC) (by kernel_rfl))) hI ?_)
          refine OpsT.pures (r := []) [4] [3, 4, 5] (S' := [(3, .slice A3 y2.length cp4), (4, .int .i64 x20), (5, .int .i64 (gt y2 x20))]) (by kernel_rfl) ?_
          refine OpsT.done ?_
          refine Qn.then ?_
          obtain ⟨r2, h2, h1⟩ := bindS h1
          refine CodT.meet (fun a w => ∃ (x27 : Bool), x27 = r2 ∧ Fr 63 [(3, .slice A3 y2.length cp4), (4, .int .i64 x20), (62, .bool x27)] a ∧ Inv w0 Z w (star (ownS 3 (cI .i64) 1 A3 cp4 y2) A)) ?_ ?_
          ·
            refine CodT.regionL [0, 1, 2, 3, 4, 5, 6, 7, 8, 9, 10, 11, 12, 13, 14, 15, 16, 17, 18, 19, 20, 21] (by kernel_rfl) ?_
            refine OpsT.pures (r := [3, 4, 5, 6, 7, 8, 9, 10, 11, 12, 13, 14, 15, 16, 17, 18, 19, 20, 21]) [0, 1, 2] [3, 4, 5, 43] (S' := [(3, .slice A3 y2.length cp4), (4, .int .i64 x20), (5, .int .i64 (gt y2 x20)), (43, .bool (decide ((gt y2 x20) < 32)))]) (by kernel_rfl) ?_
            by_cases hb28 : (decide ((gt y2 x20) < 32)) = true
            · rw [if_pos hb28] at h2
              refine OpsT.keep [3, 4, 5, 43] (S' := [(3, .slice A3 y2.length cp4), (4, .int .i64 x20), (5, .int .i64 (gt y2 x20)), (43, .bool true)]) (by (try simp only [hb28]); kernel_rfl) ?_
              refine OpsT.pures (r := []) [3, 4, 5, 6, 7, 8, 9, 10, 11, 12, 13, 14, 15, 16, 17, 18, 19, 20, 21] [3, 4, 62] (S' := [(3, .slice A3 y2.length cp4), (4, .int .i64 x20), (62, .bool true)]) (by kernel_rfl) ?_
              refine OpsT.done ?_
              have e := someS h2
              subst e
              exact Qn.thenJ fun a ha => ⟨true, rfl, ha.keep [3, 4, 62] (by kernel_rfl), hI⟩
            · rw [if_neg hb28] at h2
              have hb28 : (decide ((gt y2 x20) < 32)) = false := by simpa using hb28
              refine OpsT.keep [3, 4, 5, 43] (S' := [(3, .slice A3 y2.length cp4), (4, .int .i64 x20), (5, .int .i64 (gt y2 x20)), (43, .bool false)]) (by (try simp only [hb28]); kernel_rfl) ?_
              refine OpsT.pures (r := [7, 8, 9, 10, 11, 12, 13, 14, 15, 16, 17, 18, 19, 20, 21]) [3, 4, 5, 6] [3, 4, 5, 47] (S' := [(3, .slice A3 y2.length cp4), (4, .int .i64 x20), (5, .int .i64 (gt y2 x20)), (47, .bool ((gt y2 x20) == 47))]) (by kernel_rfl) ?_
              by_cases hb29 : ((gt y2 x20) == 47) = true
              · rw [if_pos hb29] at h2
                refine OpsT.keep [3, 4, 5, 47] (S' := [(3, .slice A3 y2.length cp4), (4, .int .i64 x20), (5, .int .i64 (gt y2 x20)), (47, .bool true)]) (by (try simp only [hb29]); kernel_rfl) ?_
                refine OpsT.pures (r := []) [7, 8, 9, 10, 11, 12, 13, 14, 15, 16, 17, 18, 19, 20, 21] [3, 4, 62] (S' := [(3, .slice A3 y2.length cp4), (4, .int .i64 x20), (62, .bool true)]) (by kernel_rfl) ?_
                refine OpsT.done ?_
                have e := someS h2
                subst e
                exact Qn.thenJ fun a ha => ⟨true, rfl, ha.keep [3, 4, 62] (by kernel_rfl), hI⟩
              · rw [if_neg hb29] at h2
                have hb29 : ((gt y2 x20) == 47) = false := by simpa using hb29
                refine OpsT.keep [3, 4, 5, 47] (S' := [(3, .slice A3 y2.length cp4), (4, .int .i64 x20), (5, .int .i64 (gt y2 x20)), (47, .bool false)]) (by (try simp only [hb29]); kernel_rfl) ?_
                refine OpsT.pures (r := [10, 11, 12, 13, 14, 15, 16, 17, 18, 19, 20, 21]) [7, 8, 9] [3, 4, 5, 47, 50] (S' := [(3, .slice A3 y2.length cp4), (4, .int .i64 x20), (5, .int .i64 (gt y2 x20)), (47, .bool false), (50, .bool (decide ((gt y2 x20) ≥ 127)))]) (by kernel_rfl) ?_
                by_cases hb30 : (decide ((gt y2 x20) ≥ 127)) = true
                · rw [if_pos hb30] at h2
                  refine OpsT.keep [3, 4, 5, 47, 50] (S' := [(3, .slice A3 y2.length cp4), (4, .int .i64 x20), (5, .int .i64 (gt y2 x20)), (47, .bool false), (50, .bool true)]) (by (try simp only [hb30]); kernel_rfl) ?_
                  refine OpsT.pures (r := [15, 16, 17, 18, 19, 20, 21]) [10, 11, 12, 13, 14] [3, 4, 5, 55] (S' := [(3, .slice A3 y2.length cp4), (4, .int .i64 x20), (5, .int .i64 (gt y2 x20)), (55, .bool (decide ((gt y2 x20) ≤ 159)))]) (by kernel_rfl) ?_
                  by_cases hb31 : (decide ((gt y2 x20) ≤ 159)) = true
                  · rw [if_pos hb31] at h2
                    refine OpsT.keep [3, 4, 5, 55] (S' := [(3, .slice A3 y2.length cp4), (4, .int .i64 x20), (5, .int .i64 (gt y2 x20)), (55, .bool true)]) (by (try simp only [hb31]); kernel_rfl) ?_
                    refine OpsT.pures (r := []) [15, 16, 17, 18, 19, 20, 21] [3, 4, 62] (S' := [(3, .slice A3 y2.length cp4), (4, .int .i64 x20), (62, .bool true)]) (by kernel_rfl) ?_
                    refine OpsT.done ?_
                    have e := someS h2
                    subst e
                    exact Qn.thenJ fun a ha => ⟨true, rfl, ha.keep [3, 4, 62] (by kernel_rfl), hI⟩
                  · rw [if_neg hb31] at h2
                    have hb31 : (decide ((gt y2 x20) ≤ 159)) = false := by simpa using hb31
                    refine OpsT.keep [3, 4, 5, 55] (S' := [(3, .slice A3 y2.length cp4), (4, .int .i64 x20), (5, .int .i64 (gt y2 x20)), (55, .bool false)]) (by (try simp only [hb31]); kernel_rfl) ?_
                    refine OpsT.pures (r := [19, 20, 21]) [15, 16, 17, 18] [3, 4, 5, 59] (S' := [(3, .slice A3 y2.length cp4), (4, .int .i64 x20), (5, .int .i64 (gt y2 x20)), (59, .bool ((gt y2 x20) == 65533))]) (by kernel_rfl) ?_
                    by_cases hb32 : ((gt y2 x20) == 65533) = true
                    · rw [if_pos hb32] at h2
                      refine OpsT.keep [3, 4, 5, 59] (S' := [(3, .slice A3 y2.length cp4), (4, .int .i64 x20), (5, .int .i64 (gt y2 x20)), (59, .bool true)]) (by (try simp only [hb32]); kernel_rfl) ?_
                      refine OpsT.pures (r := []) [19, 20, 21] [3, 4, 62] (S' := [(3, .slice A3 y2.length cp4), (4, .int .i64 x20), (62, .bool true)]) (by kernel_rfl) ?_
                      refine OpsT.done ?_
                      have e := someS h2
                      subst e
                      exact Qn.thenJ fun a ha => ⟨true, rfl, ha.keep [3, 4, 62] (by kernel_rfl), hI⟩
                    · rw [if_neg hb32] at h2
                      have hb32 : ((gt y2 x20) == 65533) = false := by simpa using hb32
                      refine OpsT.keep [3, 4, 5, 59] (S' := [(3, .slice A3 y2.length cp4), (4, .int .i64 x20), (5, .int .i64 (gt y2 x20)), (59, .bool false)]) (by (try simp only [hb32]); kernel_rfl) ?_
                      refine OpsT.pures (r := []) [19, 20, 21] [3, 4, 62] (S' := [(3, .slice A3 y2.length cp4), (4, .int .i64 x20), (62, .bool (decide ((gt y2 x20) ≥ 1114112)))]) (by kernel_rfl) ?_
                      refine OpsT.done ?_
                      have e := someS h2
                      subst e
                      exact Qn.thenJ fun a ha => ⟨decide ((gt y2 x20) ≥ 1114112), rfl, ha.keep [3, 4, 62] (by kernel_rfl), hI⟩
                · rw [if_neg hb30] at h2
                  have hb30 : (decide ((gt y2 x20) ≥ 127)) = false := by simpa using hb30
                  refine OpsT.keep [3, 4, 5, 47, 50] (S' := [(3, .slice A3 y2.length cp4), (4, .int .i64 x20), (5, .int .i64 (gt y2 x20)), (47, .bool false), (50, .bool false)]) (by (try simp only [hb30]); kernel_rfl) ?_
                  refine OpsT.pures (r := [19, 20, 21]) [10, 11, 12, 13, 14, 15, 16, 17, 18] [3, 4, 5, 59] (S' := [(3, .slice A3 y2.length cp4), (4, .int .i64 x20), (5, .int .i64 (gt y2 x20)), (59, .bool ((gt y2 x20) == 65533))]) (by kernel_rfl) ?_
                  by_cases hb33 : ((gt y2 x20) == 65533) = true
                  · rw [if_pos hb33] at h2
                    refine OpsT.keep [3, 4, 5, 59] (S' := [(3, .slice A3 y2.length cp4), (4, .int .i64 x20), (5, .int .i64 (gt y2 x20)), (59, .bool true)]) (by (try simp only [hb33]); kernel_rfl) ?_
                    refine OpsT.pures (r := []) [19, 20, 21] [3, 4, 62] (S' := [(3, .slice A3 y2.length cp4), (4, .int .i64 x20), (62, .bool true)]) (by kernel_rfl) ?_
                    refine OpsT.done ?_
                    have e := someS h2
                    subst e
                    exact Qn.thenJ fun a ha => ⟨true, rfl, ha.keep [3, 4, 62] (by kernel_rfl), hI⟩
                  · rw [if_neg hb33] at h2
                    have hb33 : ((gt y2 x20) == 65533) = false := by simpa using hb33
                    refine OpsT.keep [3, 4, 5, 59] (S' := [(3, .slice A3 y2.length cp4), (4, .int .i64 x20), (5, .int .i64 (gt y2 x20)), (59, .bool false)]) (by (try simp only [hb33]); kernel_rfl) ?_
                    refine OpsT.pures (r := []) [19, 20, 21] [3, 4, 62] (S' := [(3, .slice A3 y2.length cp4), (4, .int .i64 x20), (62, .bool (decide ((gt y2 x20) ≥ 1114112)))]) (by kernel_rfl) ?_
                    refine OpsT.done ?_
                    have e := someS h2
                    subst e
                    exact Qn.thenJ fun a ha => ⟨decide ((gt y2 x20) ≥ 1114112), rfl, ha.keep [3, 4, 62] (by kernel_rfl), hI⟩
          ·
            rintro a w ⟨x27, rfl, ha, hI⟩
            try dsimp only at h1
            refine CodT.of ?_ ha
            by_cases hb34 : x27 = true
            · rw [if_pos hb34] at h1
              refine CodT.yes' (b := x27) (by kernel_rfl) hb34 ?_
              refine CodT.seq ?_
              refine CodT.regionL [0] (by kernel_rfl) ?_
              refine OpsT.pures (r := []) [0] [2] (S' := [(2, .bool false)]) (by kernel_rfl) ?_
              refine OpsT.done ?_
              refine Qn.then ?_
              refine CodT.ret ?_
              refine Qn.block_ret ?_
              refine Qn.ret_then ?_
              refine Qn.ret_then ?_
              refine Qn.block_ret ?_
              refine Qn.ret_then ?_
              refine Qn.ret_then ?_
              have hI := hI.drop
              have e := someS h1
              subst e
              try dsimp only at h0
              have e := someS h0
              subst e
              refine Qn.keep [2] (S' := [(2, .bool false)]) (by kernel_rfl) ?_
              exact post_ret (v := .bool false) (fun a ha => RunRes.run (vs := [.bool false]) (.tmp (t := 2) (by kernel_rfl) .nil) ha (by kernel_rfl)) ⟨rfl, hI⟩
            · rw [if_neg hb34] at h1
              refine CodT.no' (b := x27) (by kernel_rfl) (by simpa using hb34) ?_
              refine CodT.skip ?_
              refine Qn.block_normal ?_
              refine Qn.then ?_
              refine CodT.regionL [0, 1, 2] (by kernel_rfl) ?_
              refine OpsT.pures (r := []) [0, 1, 2] [3, 4] (S' := [(3, .slice A3 y2.length cp4), (4, .int .i64 (wi64 (x20 + 1)))]) (by kernel_rfl) ?_
              refine OpsT.done ?_
              exact Qn.thenJ fun a ha => ⟨k, Nat.lt_succ_self k, wi64 (x20 + 1), h1, ha.keep [3, 4] (by kernel_rfl), hI⟩
        · rw [if_neg hb21] at h1
          refine CodT.no' (b := decide (x20 < (y2.length : Int))) (by kernel_rfl) (by simpa using hb21) ?_
          refine CodT.exit ?_
          refine Qn.exit_then ?_
          refine Qn.exit_then ?_
          refine Qn.block ?_
          have hI := hI.drop
          have e := someS h1
          subst e
          exact Qn.thenJ fun a ha => ⟨rfl, ha.keep [] (by kernel_rfl), hI⟩
      ·
        rintro a w ⟨rfl, ha, hI⟩
        try dsimp only at h0
        refine Qn.of ?_ ha
        refine Qn.then ?_
        refine CodT.seq ?_
        refine CodT.regionL [0] (by kernel_rfl) ?_
        refine OpsT.pures (r := []) [0] [2] (S' := [(2, .bool true)]) (by kernel_rfl) ?_
        refine OpsT.done ?_
        refine Qn.then ?_
        refine CodT.ret ?_
        have e := someS h0
        subst e
        refine Qn.keep [2] (S' := [(2, .bool true)]) (by kernel_rfl) ?_
        exact post_ret (v := .bool true) (fun a ha => RunRes.run (vs := [.bool true]) (.tmp (t := 2) (by kernel_rfl) .nil) ha (by kernel_rfl)) ⟨rfl, hI⟩
set_option maxRecDepth 100000 in
set_option maxHeartbeats 4000000 in
/-- cenotaph/cenotaphref03.Less -/
theorem c29 (w0 w : World) (Z : Hp) (A : HP) (hI : Inv w0 Z w A) (hT : Tabs Z) (a0 : ByteArray) (a1 : ByteArray) (r : Bool) (h0 : ref03_Less a0 a1 = some r) :
    Calls prog 29 #[.string a0, .string a1] w (fun e w' => e = .returned (.bool r) ∧ Inv w0 Z w' A) := by
  have e4 := calls_intro (R := (fun e w' => e = .returned (.bool r) ∧ Inv w0 Z w' A)) (w := w) (args := [.string a0, .string a1]) (fn := Go.Proofs.Tryd.f29) 47 Go.Proofs.Tryd.func29 (by rfl) Go.Proofs.Tryd.ntmps29 (by kernel_rfl)
  refine e4 ?_
  clear e4
  unfold ref03_Less at h0
  refine CodT.seq ?_
  refine CodT.regionL [0] (by kernel_rfl) ?_
  refine OpsT.pures (r := []) [0] [0, 1] (S' := [(0, .string a0), (1, .string a1)]) (by kernel_rfl) ?_
  refine OpsT.done ?_
  refine Qn.then ?_
  refine CodT.seq ?_
  refine CodT.regionL [0, 1, 2] (by kernel_rfl) ?_
  refine OpsT.pures (r := [1, 2]) [0] [1, 8] (S' := [(1, .string a1), (8, .string a0)]) (by kernel_rfl) ?_
  obtain ⟨y2, hc1, h0⟩ := bindS h0
  try dsimp only at h0
  refine OpsT.cons (Does.call (d := some 9) (n := 42) (vs := [.string a0]) (by kernel_rfl) en42 (c42 w0 w _ _ hI hT a0 _ hc1) ?_)
  rintro e w ⟨A3, cp4, rfl, hI⟩
  refine ⟨_, rfl, ?_⟩
  refine OpsT.pures (r := []) [2] [1, 5] (S' := [(1, .string a1), (5, .slice A3 y2.length cp4)]) (by kernel_rfl) ?_
  refine OpsT.done ?_
  refine Qn.then ?_
  refine CodT.seq ?_
  refine CodT.regionL [0, 1, 2] (by kernel_rfl) ?_
  refine OpsT.pures (r := [1, 2]) [0] [5, 10] (S' := [(5, .slice A3 y2.length cp4), (10, .string a1)]) (by kernel_rfl) ?_
  obtain ⟨y6, hc5, h0⟩ := bindS h0
  try dsimp only at h0
  refine OpsT.cons (Does.call (d := some 11) (n := 42) (vs := [.string a1]) (by kernel_rfl) en42 (c42 w0 w _ _ hI hT a1 _ hc5) ?_)
  rintro e w ⟨A7, cp8, rfl, hI⟩
  refine ⟨_, rfl, ?_⟩
  refine OpsT.pures (r := []) [2] [5, 6] (S' := [(5, .slice A3 y2.length cp4), (6, .slice A7 y6.length cp8)]) (by kernel_rfl) ?_
  refine OpsT.done ?_
  refine Qn.then ?_
  refine CodT.seq ?_
  refine CodT.seq ?_
  refine CodT.regionL [0] (by kernel_rfl) ?_
  refine OpsT.pures (r := []) [0] [5, 6, 7] (S' := [(5, .slice A3 y2.length cp4), (6, .slice A7 y6.length cp8), (7, .int .i64 0)]) (by kernel_rfl) ?_
  refine OpsT.done ?_
  refine Qn.then ?_
  obtain ⟨r1, h1, h0⟩ := bindS h0
  refine CodT.meet1 (fun a w => .inr () = r1 ∧ Fr 47 [(5, .slice A3 y2.length cp4), (6, .slice A7 y6.length cp8)] a ∧ Inv w0 Z w (star (ownS 3 (cI .i64) 1 A7 cp8 y6) (star (ownS 3 (cI .i64) 1 A3 cp4 y2) A))) ?_ ?_
  ·
    refine CodT.block ?_
    refine (fun a ha => wp_loopN (fun k a w => ∃ (x9 : Int), ref03_Less.l0 y2 y6 k x9 = some r1 ∧ Fr 47 [(5, .slice A3 y2.length cp4), (6, .slice A7 y6.length cp8), (7, .int .i64 x9)] a ∧ Inv w0 Z w (star (ownS 3 (cI .i64) 1 A7 cp8 y6) (star (ownS 3 (cI .i64) 1 A3 cp4 y2) A))) ?_ FU a w ⟨0, h1, ha.keep [5, 6, 7] (by kernel_rfl), hI⟩)
    clear h1 hI
    rintro k a w ⟨x9, h1, ha, hI⟩
    rcases k with _ | k
    · cases h1
    simp only [ref03_Less.l0] at h1
    refine CodT.of ?_ ha
    refine CodT.seq ?_
    obtain ⟨r2, h2, h1⟩ := bindS h1
    refine CodT.meet (fun a w => ∃ (x10 : Bool), x10 = r2 ∧ Fr 47 [(5, .slice A3 y2.length cp4), (6, .slice A7 y6.length cp8), (7, .int .i64 x9), (21, .bool x10)] a ∧ Inv w0 Z w (star (ownS 3 (cI .i64) 1 A7 cp8 y6) (star (ownS 3 (cI .i64) 1 A3 cp4 y2) A))) ?_ ?_
    ·
      refine CodT.regionL [0, 1, 2, 3, 4, 5, 6, 7, 8, 9] (by kernel_rfl) ?_
      refine OpsT.pures (r := [5, 6, 7, 8, 9]) [0, 1, 2, 3, 4] [5, 6, 7, 16] (S' := [(5, .slice A3 y2.length cp4), (6, .slice A7 y6.length cp8), (7, .int .i64 x9), (16, .bool (decide (x9 < (y2.length : Int))))]) (by kernel_rfl) ?_
      by_cases hb11 : (decide (x9 < (y2.length : Int))) = true
      · rw [if_pos hb11] at h2
        refine OpsT.keep [5, 6, 7, 16] (S' := [(5, .slice A3 y2.length cp4), (6, .slice A7 y6.length cp8), (7, .int .i64 x9), (16, .bool true)]) (by (try simp only [hb11]); kernel_rfl) ?_
        refine OpsT.pures (r := []) [5, 6, 7, 8, 9] [5, 6, 7, 21] (S' := [(5, .slice A3 y2.length cp4), (6, .slice A7 y6.length cp8), (7, .int .i64 x9), (21, .bool (decide (x9 < (y6.length : Int))))]) (by kernel_rfl) ?_
        refine OpsT.done ?_
        have e := someS h2
        subst e
        exact Qn.thenJ fun a ha => ⟨decide (x9 < (y6.length : Int)), rfl, ha.keep [5, 6, 7, 21] (by kernel_rfl), hI⟩
      · rw [if_neg hb11] at h2
        have hb11 : (decide (x9 < (y2.length : Int))) = false := by simpa using hb11
        refine OpsT.keep [5, 6, 7, 16] (S' := [(5, .slice A3 y2.length cp4), (6, .slice A7 y6.length cp8), (7, .int .i64 x9), (16, .bool false)]) (by (try simp only [hb11]); kernel_rfl) ?_
        refine OpsT.pures (r := []) [5, 6, 7, 8, 9] [5, 6, 7, 21] (S' := [(5, .slice A3 y2.length cp4), (6, .slice A7 y6.length cp8), (7, .int .i64 x9), (21, .bool false)]) (by kernel_rfl) ?_
        refine OpsT.done ?_
        have e := someS h2
        subst e
        exact Qn.thenJ fun a ha => ⟨false, rfl, ha.keep [5, 6, 7, 21] (by kernel_rfl), hI⟩
    ·
      rintro a w ⟨x10, rfl, ha, hI⟩
      try dsimp only at h1
      refine CodT.of ?_ ha
      by_cases hb12 : x10 = true
      · rw [if_pos hb12] at h1
        refine CodT.yes' (b := x10) (by kernel_rfl) hb12 ?_
        refine CodT.skip ?_
        refine Qn.then ?_
        refine CodT.seq ?_
        refine CodT.block ?_
        refine CodT.seq ?_
        refine CodT.drawI (n := 9) [] (by kernel_rfl) (by kernel_rfl) hI ?_
        intro w hI
        refine GmT.p' 0 24 (.slice A3 y2.length cp4) (by kernel_rfl) (by kernel_rfl) ?_
        refine GmT.p' 1 25 (.int .i64 x9) (by kernel_rfl) (by kernel_rfl) ?_
        refine GmT.p' 4 28 (.slice A7 y6.length cp8) (by kernel_rfl) (by kernel_rfl) ?_
        refine GmT.p' 5 29 (.int .i64 x9) (by kernel_rfl) (by kernel_rfl) ?_
        obtain ⟨hg13, h1⟩ := guardS h1
        obtain ⟨g14, hA15, hr16, hl17⟩ := ownS_get (hI.mono (pick2 _ _ _)) hg13.1 hg13.2
        refine GmT.r (i := 2) 2 (by kernel_rfl) (by kernel_rfl) (Yl.indexSlice (d := 26) (T := 52) (cc := cp4) (k := .i64) (j := x9) (g := g14) (o := 0) (by kernel_rfl) Go.Proofs.Tryd.underlying52 ty3 hA15 hg13.1 hg13.2) hI ?_
        refine GmT.r (i := 3) 2 (by kernel_rfl) (by kernel_rfl) (Yl.load (d := 27) (T := 3) (v := .int .i64 (gt y2 x9)) (by kernel_rfl) (ldR ty3 (v := .int .i64 (gt y2 x9)) 0 (fun w hC => hr16 w0 w _ (hC.mono (pick2 _ _ _))) (by kernel_rfl))) hI ?_
        obtain ⟨hg18, h1⟩ := guardS h1
        obtain ⟨g19, hA20, hr21, hl22⟩ := ownS_get hI hg18.1 hg18.2
        refine GmT.r (i := 6) 2 (by kernel_rfl) (by kernel_rfl) (Yl.indexSlice (d := 30) (T := 52) (cc := cp8) (k := .i64) (j := x9) (g := g19) (o := 0) (by kernel_rfl) Go.Proofs.Tryd.underlying52 ty3 hA20 hg18.1 hg18.2) hI ?_
        refine GmT.r (i := 7) 2 (by kernel_rfl) (by kernel_rfl) (Yl.load (d := 31) (T := 3) (v := .int .i64 (gt y6 x9)) (by kernel_rfl) (ldR ty3 (v := .int .i64 (gt y6 x9)) 0 (fun w hC => hr21 w0 w _ hC) (by kernel_rfl))) hI ?_
        refine GmT.p' 8 32 (.bool ((gt y2 x9) != (gt y6 x9))) (by kernel_rfl) (by kernel_rfl) ?_
        refine GmT.done (by kernel_rfl) ?_
        refine Qn.then ?_
        by_cases hb23 : ((gt y2 x9) != (gt y6 x9)) = true
        · rw [if_pos hb23] at h1
          refine CodT.yes' (b := (gt y2 x9) != (gt y6 x9)) (by kernel_rfl) hb23 ?_
          refine CodT.seq ?_
          refine CodT.drawI (n := 10) [] (by kernel_rfl) (by kernel_rfl) hI ?_
          intro w hI
          refine GmT.p' 0 33 (.slice A3 y2.length cp4) (by kernel_rfl) (by kernel_rfl) ?_
          refine GmT.p' 1 34 (.int .i64 x9) (by kernel_rfl) (by kernel_rfl) ?_
          refine GmT.p' 4 37 (.slice A7 y6.length cp8) (by kernel_rfl) (by kernel_rfl) ?_
          refine GmT.p' 5 38 (.int .i64 x9) (by kernel_rfl) (by kernel_rfl) ?_
          obtain ⟨hg24, h1⟩ := guardS h1
          obtain ⟨g25, hA26, hr27, hl28⟩ := ownS_get (hI.mono (pick2 _ _ _)) hg24.1 hg24.2
          refine GmT.r (i := 2) 2 (by kernel_rfl) (by kernel_rfl) (Yl.indexSlice (d := 35) (T := 52) (cc := cp4) (k := .i64) (j := x9) (g := g25) (o := 0) (by kernel_rfl) Go.Proofs.Tryd.underlying52 ty3 hA26 hg24.1 hg24.2) hI ?_
          refine GmT.r (i := 3) 2 (by kernel_rfl) (by kernel_rfl) (Yl.load (d := 36) (T := 3) (v := .int .i64 (gt y2 x9)) (by kernel_rfl) (ldR ty3 (v := .int .i64 (gt y2 x9)) 0 (fun w hC => hr27 w0 w _ (hC.mono (pick2 _ _ _))) (by kernel_rfl))) hI ?_
          obtain ⟨hg29, h1⟩ := guardS h1
          obtain ⟨g30, hA31, hr32, hl33⟩ := ownS_get hI hg29.1 hg29.2
          refine GmT.r (i := 6) 2 (by kernel_rfl) (by kernel_rfl) (Yl.indexSlice (d := 39) (T := 52) (cc := cp8) (k := .i64) (j := x9) (g := g30) (o := 0) (by kernel_rfl) Go.Proofs.Tryd.underlying52 ty3 hA31 hg29.1 hg29.2) hI ?_
          refine GmT.r (i := 7) 2 (by kernel_rfl) (by kernel_rfl) (Yl.load (d := 40) (T := 3) (v := .int .i64 (gt y6 x9)) (by kernel_rfl) (ldR ty3 (v := .int .i64 (gt y6 x9)) 0 (fun w hC => hr32 w0 w _ hC) (by kernel_rfl))) hI ?_
          refine GmT.p' 8 41 (.bool (decide ((gt y2 x9) < (gt y6 x9)))) (by kernel_rfl) (by kernel_rfl) ?_
          refine GmT.p' 9 4 (.bool (decide ((gt y2 x9) < (gt y6 x9)))) (by kernel_rfl) (by kernel_rfl) ?_
          refine GmT.done (by kernel_rfl) ?_
          refine Qn.then ?_
          refine CodT.ret ?_
          refine Qn.block_ret ?_
          refine Qn.ret_then ?_
          refine Qn.ret_then ?_
          refine Qn.block_ret ?_
          refine Qn.ret_then ?_
          refine Qn.ret_then ?_
          have hI := hI.drop
          have hI := hI.drop
          have e := someS h1
          subst e
          try dsimp only at h0
          have e := someS h0
          subst e
          refine Qn.keep [4] (S' := [(4, .bool (decide ((gt y2 x9) < (gt y6 x9))))]) (by kernel_rfl) ?_
          exact post_ret (v := .bool (decide ((gt y2 x9) < (gt y6 x9)))) (fun a ha => RunRes.run (vs := [.bool (decide ((gt y2 x9) < (gt y6 x9)))]) (.tmp (t := 4) (by kernel_rfl) .nil) ha (by kernel_rfl)) ⟨rfl, hI⟩
        · rw [if_neg hb23] at h1
          refine CodT.no' (b := (gt y2 x9) != (gt y6 x9)) (by kernel_rfl) (by simpa using hb23) ?_
          refine CodT.skip ?_
          refine Qn.block_normal ?_
          refine Qn.then ?_
          refine CodT.regionL [0, 1, 2] (by kernel_rfl) ?_
          refine OpsT.pures (r := []) [0, 1, 2] [5, 6, 7] (S' := [(5, .slice A3 y2.length cp4), (6, .slice A7 y6.length cp8), (7, .int .i64 (wi64 (x9 + 1)))]) (by kernel_rfl) ?_
          refine OpsT.done ?_
          exact Qn.thenJ fun a ha => ⟨k, Nat.lt_succ_self k, wi64 (x9 + 1), h1, ha.keep [5, 6, 7] (by kernel_rfl), hI⟩
      · rw [if_neg hb12] at h1
        refine CodT.no' (b := x10) (by kernel_rfl) (by simpa using hb12) ?_
        refine CodT.exit ?_
        refine Qn.exit_then ?_
        refine Qn.exit_then ?_
        refine Qn.block ?_
        have e := someS h1
        subst e
        exact Qn.thenJ fun a ha => ⟨rfl, ha.keep [5, 6] (by kernel_rfl), hI⟩
  ·
    rintro a w ⟨rfl, ha, hI⟩
    try dsimp only at h0
    refine Qn.of ?_ ha
    refine Qn.then ?_
    refine CodT.seq ?_
    refine CodT.regionL [0, 1, 2, 3, 4, 5] (by kernel_rfl) ?_
    refine OpsT.pures (r := []) [0, 1, 2, 3, 4, 5] [4] (S' := [(4, .bool (decide ((y2.length : Int) < (y6.length : Int))))]) (by kernel_rfl) ?_
    refine OpsT.done ?_
    refine Qn.then ?_
    refine CodT.ret ?_
    have hI := hI.drop
    have hI := hI.drop
    have e := someS h0
    subst e
    refine Qn.keep [4] (S' := [(4, .bool (decide ((y2.length : Int) < (y6.length : Int))))]) (by kernel_rfl) ?_
    exact post_ret (v := .bool (decide ((y2.length : Int) < (y6.length : Int)))) (fun a ha => RunRes.run (vs := [.bool (decide ((y2.length : Int) < (y6.length : Int)))]) (.tmp (t := 4) (by kernel_rfl) .nil) ha (by kernel_rfl)) ⟨rfl, hI⟩
set_option maxRecDepth 100000 in
set_option maxHeartbeats 4000000 in
/-- cenotaph/cenotaphref08.Valid -/
theorem c15 (w0 w : World) (Z : Hp) (A : HP) (hI : Inv w0 Z w A) (hT : Tabs Z) (a0_ID : Int) (a0_Name : ByteArray) (a0_Data : ByteArray) (a0_Sealed : Bool) (a0_Until : Int) (A_a0_Holds : Option Addr) (c_a0_Holds : Nat) (a0_Holds : (List ByteArray)) (hr_a0_Holds : RdS Z cS 1 A_a0_Holds c_a0_Holds a0_Holds) (r : Bool) (h0 : ref08_Valid a0_ID a0_Name a0_Data a0_Sealed a0_Until a0_Holds = some r) :
    Calls prog 15 #[.agg ((([.int .i64 a0_ID, .string a0_Name, .string a0_Data, .bool a0_Sealed, .int .i64 a0_Until, .slice A_a0_Holds a0_Holds.length c_a0_Holds] : List Value))).toArray] w (fun e w' => e = .returned (.bool r) ∧ Inv w0 Z w' A) := by
  have e4 := calls_intro (R := (fun e w' => e = .returned (.bool r) ∧ Inv w0 Z w' A)) (w := w) (args := [.agg ((([.int .i64 a0_ID, .string a0_Name, .string a0_Data, .bool a0_Sealed, .int .i64 a0_Until, .slice A_a0_Holds a0_Holds.length c_a0_Holds] : List Value))).toArray]) (fn := Go.Proofs.Tryd.f15) 89 Go.Proofs.Tryd.func15 (by rfl) Go.Proofs.Tryd.ntmps15 (by kernel_rfl)
  refine e4 ?_
  clear e4
  unfold ref08_Valid at h0
  refine CodT.seq ?_
  refine CodT.regionL [0, 1] (by kernel_rfl) ?_
  refine OpsT.cons (Does.boxL (d := 1) (T := 24) (v := .agg ((([.int .i64 a0_ID, .string a0_Name, .string a0_Data, .bool a0_Sealed, .int .i64 a0_Until, .slice A_a0_Holds a0_Holds.length c_a0_Holds] : List Value))).toArray) ((([.int .i64 a0_ID, .string a0_Name, .string a0_Data, .bool a0_Sealed, .int .i64 a0_Until, .slice A_a0_Holds a0_Holds.length c_a0_Holds] : List Value))) (by kernel_rfl) hI (by kernel_rfl) ?_)
  intro b1 w hI
  refine OpsT.pures (r := []) [1] [1] (S' := [(1, .pointer (some ⟨b1, 0, none⟩))]) (by kernel_rfl) ?_
  refine OpsT.done ?_
  refine Qn.then ?_
  refine CodT.seq ?_
  refine CodT.regionL [0, 1, 2, 3] (by kernel_rfl) ?_
  refine OpsT.pures (r := [1, 2, 3]) [0] [1, 7] (S' := [(1, .pointer (some ⟨b1, 0, none⟩)), (7, .pointer (some ⟨b1, 1, none⟩))]) (by kernel_rfl) ?_
  refine OpsT.cons (Does.yi (Yl.load (d := 8) (T := 9) (v := .string a0_Name) (by kernel_rfl) (ldB ty9 (l := (([.int .i64 a0_ID, .string a0_Name, .string a0_Data, .bool a0_Sealed, .int .i64 a0_Until, .slice A_a0_Holds a0_Holds.length c_a0_Holds] : List Value))) (o := 1) (v := .string a0_Name) (ent_refl _) (by kernel_rfl))) hI ?_)
  obtain ⟨y3, hc2, h0⟩ := bindS h0
  try dsimp only at h0
  refine OpsT.cons (Does.call (d := some 9) (n := 28) (vs := [.string a0_Name]) (by kernel_rfl) en28 (c28 w0 w _ _ hI hT a0_Name _ hc2) ?_)
  rintro e w ⟨rfl, hI⟩
  refine ⟨_, rfl, ?_⟩
  refine OpsT.pures (r := []) [3] [1, 3] (S' := [(1, .pointer (some ⟨b1, 0, none⟩)), (3, .bool y3)]) (by kernel_rfl) ?_
  refine OpsT.done ?_
  refine Qn.then ?_
  refine CodT.seq ?_
  obtain ⟨r1, h1, h0⟩ := bindS h0
  refine CodT.meet (fun a w => ∃ (x4 : Bool), x4 = r1 ∧ Fr 89 [(1, .pointer (some ⟨b1, 0, none⟩)), (43, .bool x4)] a ∧ Inv w0 Z w (star (pt b1 (.cells ((([.int .i64 a0_ID, .string a0_Name, .string a0_Data, .bool a0_Sealed, .int .i64 a0_Until, .slice A_a0_Holds a0_Holds.length c_a0_Holds] : List Value))).toArray 24 (0, 0))) A)) ?_ ?_
  ·
    refine CodT.regionL [0, 1, 2, 3, 4, 5, 6, 7, 8, 9, 10, 11, 12, 13, 14, 15, 16, 17, 18, 19, 20, 21, 22, 23, 24, 25, 26, 27, 28, 29, 30, 31, 32, 33] (by kernel_rfl) ?_
    refine OpsT.pures (r := [1, 2, 3, 4, 5, 6, 7, 8, 9, 10, 11, 12, 13, 14, 15, 16, 17, 18, 19, 20, 21, 22, 23, 24, 25, 26, 27, 28, 29, 30, 31, 32, 33]) [0] [1, 3, 10] (S' := [(1, .pointer (some ⟨b1, 0, none⟩)), (3, .bool y3), (10, .pointer (some ⟨b1, 0, none⟩))]) (by kernel_rfl) ?_
    refine OpsT.cons (Does.yi (Yl.load (d := 11) (T := 3) (v := .int .i64 a0_ID) (by kernel_rfl) (ldB ty3 (l := (([.int .i64 a0_ID, .string a0_Name, .string a0_Data, .bool a0_Sealed, .int .i64 a0_Until, .slice A_a0_Holds a0_Holds.length c_a0_Holds] : List Value))) (o := 0) (v := .int .i64 a0_ID) (ent_refl _) (by kernel_rfl))) hI ?_)
    refine OpsT.pures (r := [4, 5, 6, 7, 8, 9, 10, 11, 12, 13, 14, 15, 16, 17, 18, 19, 20, 21, 22, 23, 24, 25, 26, 27, 28, 29, 30, 31, 32, 33]) [2, 3] [1, 3, 13] (S' := [(1, .pointer (some ⟨b1, 0, none⟩)), (3, .bool y3), (13, .bool (decide (a0_ID < 1)))]) (by kernel_rfl) ?_
    by_cases hb5 : (decide (a0_ID < 1)) = true
    · rw [if_pos hb5] at h1
      refine OpsT.keep [1, 3, 13] (S' := [(1, .pointer (some ⟨b1, 0, none⟩)), (3, .bool y3), (13, .bool true)]) (by (try simp only [hb5]); kernel_rfl) ?_
      refine OpsT.pures (r := []) [4, 5, 6, 7, 8, 9, 10, 11, 12, 13, 14, 15, 16, 17, 18, 19, 20, 21, 22, 23, 24, 25, 26, 27, 28, 29, 30, 31, 32, 33] [1, 43] (S' := [(1, .pointer (some ⟨b1, 0, none⟩)), (43, .bool true)]) (by kernel_rfl) ?_
      refine OpsT.done ?_
      have e := someS h1
      subst e
      exact Qn.thenJ fun a ha => ⟨true, rfl, ha.keep [1, 43] (by kernel_rfl), hI⟩
    · rw [if_neg hb5] at h1
      have hb5 : (decide (a0_ID < 1)) = false := by simpa using hb5
      refine OpsT.keep [1, 3, 13] (S' := [(1, .pointer (some ⟨b1, 0, none⟩)), (3, .bool y3), (13, .bool false)]) (by (try simp only [hb5]); kernel_rfl) ?_
      refine OpsT.pures (r := [5, 6, 7, 8, 9, 10, 11, 12, 13, 14, 15, 16, 17, 18, 19, 20, 21, 22, 23, 24, 25, 26, 27, 28, 29, 30, 31, 32, 33]) [4] [1, 3, 13, 14] (S' := [(1, .pointer (some ⟨b1, 0, none⟩)), (3, .bool y3), (13, .bool false), (14, .pointer (some ⟨b1, 0, none⟩))]) (by kernel_rfl) ?_
      refine OpsT.cons (Does.yi (Yl.load (d := 15) (T := 3) (v := .int .i64 a0_ID) (by kernel_rfl) (ldB ty3 (l := (([.int .i64 a0_ID, .string a0_Name, .string a0_Data, .bool a0_Sealed, .int .i64 a0_Until, .slice A_a0_Holds a0_Holds.length c_a0_Holds] : List Value))) (o := 0) (v := .int .i64 a0_ID) (ent_refl _) (by kernel_rfl))) hI ?_)
      refine OpsT.pures (r := [9, 10, 11, 12, 13, 14, 15, 16, 17, 18, 19, 20, 21, 22, 23, 24, 25, 26, 27, 28, 29, 30, 31, 32, 33]) [6, 7, 8] [1, 3, 18] (S' := [(1, .pointer (some ⟨b1, 0, none⟩)), (3, .bool y3), (18, .bool (decide (a0_ID > 1099511627776)))]) (by kernel_rfl) ?_
      by_cases hb6 : (decide (a0_ID > 1099511627776)) = true
      · rw [if_pos hb6] at h1
        refine OpsT.keep [1, 3, 18] (S' := [(1, .pointer (some ⟨b1, 0, none⟩)), (3, .bool y3), (18, .bool true)]) (by (try simp only [hb6]); kernel_rfl) ?_
        refine OpsT.pures (r := []) [9, 10, 11, 12, 13, 14, 15, 16, 17, 18, 19, 20, 21, 22, 23, 24, 25, 26, 27, 28, 29, 30, 31, 32, 33] [1, 43] (S' := [(1, .pointer (some ⟨b1, 0, none⟩)), (43, .bool true)]) (by kernel_rfl) ?_
        refine OpsT.done ?_
        have e := someS h1
        subst e
        exact Qn.thenJ fun a ha => ⟨true, rfl, ha.keep [1, 43] (by kernel_rfl), hI⟩
      · rw [if_neg hb6] at h1
        have hb6 : (decide (a0_ID > 1099511627776)) = false := by simpa using hb6
        refine OpsT.keep [1, 3, 18] (S' := [(1, .pointer (some ⟨b1, 0, none⟩)), (3, .bool y3), (18, .bool false)]) (by (try simp only [hb6]); kernel_rfl) ?_
        refine OpsT.pures (r := [13, 14, 15, 16, 17, 18, 19, 20, 21, 22, 23, 24, 25, 26, 27, 28, 29, 30, 31, 32, 33]) [9, 10, 11, 12] [1, 22] (S' := [(1, .pointer (some ⟨b1, 0, none⟩)), (22, .bool (!y3))]) (by kernel_rfl) ?_
        by_cases hb7 : (!y3) = true
        · rw [if_pos hb7] at h1
          refine OpsT.keep [1, 22] (S' := [(1, .pointer (some ⟨b1, 0, none⟩)), (22, .bool true)]) (by (try simp only [hb7]); kernel_rfl) ?_
          refine OpsT.pures (r := []) [13, 14, 15, 16, 17, 18, 19, 20, 21, 22, 23, 24, 25, 26, 27, 28, 29, 30, 31, 32, 33] [1, 43] (S' := [(1, .pointer (some ⟨b1, 0, none⟩)), (43, .bool true)]) (by kernel_rfl) ?_
          refine OpsT.done ?_
          have e := someS h1
          subst e
          exact Qn.thenJ fun a ha => ⟨true, rfl, ha.keep [1, 43] (by kernel_rfl), hI⟩
        · rw [if_neg hb7] at h1
          have hb7 : (!y3) = false := by simpa using hb7
          refine OpsT.keep [1, 22] (S' := [(1, .pointer (some ⟨b1, 0, none⟩)), (22, .bool false)]) (by (try simp only [hb7]); kernel_rfl) ?_
          refine OpsT.pures (r := [14, 15, 16, 17, 18, 19, 20, 21, 22, 23, 24, 25, 26, 27, 28, 29, 30, 31, 32, 33]) [13] [1, 22, 23] (S' := [(1, .pointer (some ⟨b1, 0, none⟩)), (22, .bool false), (23, .pointer (some ⟨b1, 2, none⟩))]) (by kernel_rfl) ?_
          refine OpsT.cons (Does.yi (Yl.load (d := 24) (T := 9) (v := .string a0_Data) (by kernel_rfl) (ldB ty9 (l := (([.int .i64 a0_ID, .string a0_Name, .string a0_Data, .bool a0_Sealed, .int .i64 a0_Until, .slice A_a0_Holds a0_Holds.length c_a0_Holds] : List Value))) (o := 2) (v := .string a0_Data) (ent_refl _) (by kernel_rfl))) hI ?_)
          refine OpsT.pures (r := [19, 20, 21, 22, 23, 24, 25, 26, 27, 28, 29, 30, 31, 32, 33]) [15, 16, 17, 18] [1, 28] (S' := [(1, .pointer (some ⟨b1, 0, none⟩)), (28, .bool (decide ((a0_Data.size : Int) > 600)))]) (by kernel_rfl) ?_
          by_cases hb8 : (decide ((a0_Data.size : Int) > 600)) = true
          · rw [if_pos hb8] at h1
            refine OpsT.keep [1, 28] (S' := [(1, .pointer (some ⟨b1, 0, none⟩)), (28, .bool true)]) (by (try simp only [hb8]); kernel_rfl) ?_
            refine OpsT.pures (r := []) [19, 20, 21, 22, 23, 24, 25, 26, 27, 28, 29, 30, 31, 32, 33] [1, 43] (S' := [(1, .pointer (some ⟨b1, 0, none⟩)), (43, .bool true)]) (by kernel_rfl) ?_
            refine OpsT.done ?_
            have e := someS h1
            subst e
            exact Qn.thenJ fun a ha => ⟨true, rfl, ha.keep [1, 43] (by kernel_rfl), hI⟩
          · rw [if_neg hb8] at h1
            have hb8 : (decide ((a0_Data.size : Int) > 600)) = false := by simpa using hb8
            refine OpsT.keep [1, 28] (S' := [(1, .pointer (some ⟨b1, 0, none⟩)), (28, .bool false)]) (by (try simp only [hb8]); kernel_rfl) ?_
            refine OpsT.pures (r := [20, 21, 22, 23, 24, 25, 26, 27, 28, 29, 30, 31, 32, 33]) [19] [1, 28, 29] (S' := [(1, .pointer (some ⟨b1, 0, none⟩)), (28, .bool false), (29, .pointer (some ⟨b1, 4, none⟩))]) (by kernel_rfl) ?_
            refine OpsT.cons (Does.yi (Yl.load (d := 30) (T := 3) (v := .int .i64 a0_Until) (by kernel_rfl) (ldB ty3 (l := (([.int .i64 a0_ID, .string a0_Name, .string a0_Data, .bool a0_Sealed, .int .i64 a0_Until, .slice A_a0_Holds a0_Holds.length c_a0_Holds] : List Value))) (o := 4) (v := .int .i64 a0_Until) (ent_refl _) (by kernel_rfl))) hI ?_)
            refine OpsT.pures (r := [24, 25, 26, 27, 28, 29, 30, 31, 32, 33]) [21, 22, 23] [1, 33] (S' := [(1, .pointer (some ⟨b1, 0, none⟩)), (33, .bool (decide (a0_Until < 0)))]) (by kernel_rfl) ?_
            by_cases hb9 : (decide (a0_Until < 0)) = true
            · rw [if_pos hb9] at h1
              refine OpsT.keep [1, 33] (S' := [(1, .pointer (some ⟨b1, 0, none⟩)), (33, .bool true)]) (by (try simp only [hb9]); kernel_rfl) ?_
              refine OpsT.pures (r := []) [24, 25, 26, 27, 28, 29, 30, 31, 32, 33] [1, 43] (S' := [(1, .pointer (some ⟨b1, 0, none⟩)), (43, .bool true)]) (by kernel_rfl) ?_
              refine OpsT.done ?_
              have e := someS h1
              subst e
              exact Qn.thenJ fun a ha => ⟨true, rfl, ha.keep [1, 43] (by kernel_rfl), hI⟩
            · rw [if_neg hb9] at h1
              have hb9 : (decide (a0_Until < 0)) = false := by simpa using hb9
              refine OpsT.keep [1, 33] (S' := [(1, .pointer (some ⟨b1, 0, none⟩)), (33, .bool false)]) (by (try simp only [hb9]); kernel_rfl) ?_
              refine OpsT.pures (r := [25, 26, 27, 28, 29, 30, 31, 32, 33]) [24] [1, 33, 34] (S' := [(1, .pointer (some ⟨b1, 0, none⟩)), (33, .bool false), (34, .pointer (some ⟨b1, 4, none⟩))]) (by kernel_rfl) ?_
              refine OpsT.cons (Does.yi (Yl.load (d := 35) (T := 3) (v := .int .i64 a0_Until) (by kernel_rfl) (ldB ty3 (l := (([.int .i64 a0_ID, .string a0_Name, .string a0_Data, .bool a0_Sealed, .int .i64 a0_Until, .slice A_a0_Holds a0_Holds.length c_a0_Holds] : List Value))) (o := 4) (v := .int .i64 a0_Until) (ent_refl _) (by kernel_rfl))) hI ?_)
              refine OpsT.pures (r := [29, 30, 31, 32, 33]) [26, 27, 28] [1, 38] (S' := [(1, .pointer (some ⟨b1, 0, none⟩)), (38, .bool (decide (a0_Until > 1099511627776)))]) (by kernel_rfl) ?_
              by_cases hb10 : (decide (a0_Until > 1099511627776)) = true
              · rw [if_pos hb10] at h1
                refine OpsT.keep [1, 38] (S' := [(1, .pointer (some ⟨b1, 0, none⟩)), (38, .bool true)]) (by (try simp only [hb10]); kernel_rfl) ?_
                refine OpsT.pures (r := []) [29, 30, 31, 32, 33] [1, 43] (S' := [(1, .pointer (some ⟨b1, 0, none⟩)), (43, .bool true)]) (by kernel_rfl) ?_
                refine OpsT.done ?_
                have e := someS h1
                subst e
                exact Qn.thenJ fun a ha => ⟨true, rfl, ha.keep [1, 43] (by kernel_rfl), hI⟩
              · rw [if_neg hb10] at h1
                have hb10 : (decide (a0_Until > 1099511627776)) = false := by simpa using hb10
                refine OpsT.keep [1, 38] (S' := [(1, .pointer (some ⟨b1, 0, none⟩)), (38, .bool false)]) (by (try simp only [hb10]); kernel_rfl) ?_
                refine OpsT.pures (r := [30, 31, 32, 33]) [29] [1, 38, 39] (S' := [(1, .pointer (some ⟨b1, 0, none⟩)), (38, .bool false), (39, .pointer (some ⟨b1, 5, none⟩))]) (by kernel_rfl) ?_
                refine OpsT.cons (Does.yi (Yl.load (d := 40) (T := 22) (v := .slice A_a0_Holds a0_Holds.length c_a0_Holds) (by kernel_rfl) (ldB ty22 (l := (([.int .i64 a0_ID, .string a0_Name, .string a0_Data, .bool a0_Sealed, .int .i64 a0_Until, .slice A_a0_Holds a0_Holds.length c_a0_Holds] : List Value))) (o := 5) (v := .slice A_a0_Holds a0_Holds.length c_a0_Holds) (ent_refl _) (by kernel_rfl))) hI ?_)
                refine OpsT.pures (r := []) [31, 32, 33] [1, 43] (S' := [(1, .pointer (some ⟨b1, 0, none⟩)), (43, .bool (decide ((a0_Holds.length : Int) > 4)))]) (by kernel_rfl) ?_
                refine OpsT.done ?_
                have e := someS h1
                subst e
                exact Qn.thenJ fun a ha => ⟨decide ((a0_Holds.length : Int) > 4), rfl, ha.keep [1, 43] (by kernel_rfl), hI⟩
  ·
    rintro a w ⟨x4, rfl, ha, hI⟩
    try dsimp only at h0
    refine CodT.of ?_ ha
    by_cases hb11 : x4 = true
    · rw [if_pos hb11] at h0
      refine CodT.yes' (b := x4) (by kernel_rfl) hb11 ?_
      refine CodT.seq ?_
      refine CodT.regionL [0] (by kernel_rfl) ?_
      refine OpsT.pures (r := []) [0] [2] (S' := [(2, .bool false)]) (by kernel_rfl) ?_
      refine OpsT.done ?_
      refine Qn.then ?_
      refine CodT.ret ?_
      refine Qn.ret_then ?_
      have hI := hI.drop
      have e := someS h0
      subst e
      refine Qn.keep [2] (S' := [(2, .bool false)]) (by kernel_rfl) ?_
      exact post_ret (v := .bool false) (fun a ha => RunRes.run (vs := [.bool false]) (.tmp (t := 2) (by kernel_rfl) .nil) ha (by kernel_rfl)) ⟨rfl, hI⟩
    · rw [if_neg hb11] at h0
      refine CodT.no' (b := x4) (by kernel_rfl) (by simpa using hb11) ?_
      refine CodT.skip ?_
      refine Qn.then ?_
      refine CodT.seq ?_
      obtain ⟨r1, h1, h0⟩ := bindS h0
      refine CodT.meet (fun a w => ∃ (x12 : Bool), x12 = r1 ∧ Fr 89 [(1, .pointer (some ⟨b1, 0, none⟩)), (57, .bool x12)] a ∧ Inv w0 Z w (star (pt b1 (.cells ((([.int .i64 a0_ID, .string a0_Name, .string a0_Data, .bool a0_Sealed, .int .i64 a0_Until, .slice A_a0_Holds a0_Holds.length c_a0_Holds] : List Value))).toArray 24 (0, 0))) A)) ?_ ?_
      ·
        refine CodT.regionL [0, 1, 2, 3, 4, 5, 6, 7, 8, 9, 10, 11, 12, 13] (by kernel_rfl) ?_
        refine OpsT.pures (r := [1, 2, 3, 4, 5, 6, 7, 8, 9, 10, 11, 12, 13]) [0] [1, 44] (S' := [(1, .pointer (some ⟨b1, 0, none⟩)), (44, .pointer (some ⟨b1, 3, none⟩))]) (by kernel_rfl) ?_
        refine OpsT.cons (Does.yi (Yl.load (d := 45) (T := 4) (v := .bool a0_Sealed) (by kernel_rfl) (ldB ty4 (l := (([.int .i64 a0_ID, .string a0_Name, .string a0_Data, .bool a0_Sealed, .int .i64 a0_Until, .slice A_a0_Holds a0_Holds.length c_a0_Holds] : List Value))) (o := 3) (v := .bool a0_Sealed) (ent_refl _) (by kernel_rfl))) hI ?_)
        refine OpsT.pures (r := [4, 5, 6, 7, 8, 9, 10, 11, 12, 13]) [2, 3] [1, 47] (S' := [(1, .pointer (some ⟨b1, 0, none⟩)), (47, .bool (!a0_Sealed))]) (by kernel_rfl) ?_
        by_cases hb13 : (!a0_Sealed) = true
        · rw [if_pos hb13] at h1
          refine OpsT.keep [1, 47] (S' := [(1, .pointer (some ⟨b1, 0, none⟩)), (47, .bool true)]) (by (try simp only [hb13]); kernel_rfl) ?_
          refine OpsT.pures (r := [5, 6, 7, 8, 9, 10, 11, 12, 13]) [4] [1, 47, 48] (S' := [(1, .pointer (some ⟨b1, 0, none⟩)), (47, .bool true), (48, .pointer (some ⟨b1, 4, none⟩))]) (by kernel_rfl) ?_
          refine OpsT.cons (Does.yi (Yl.load (d := 49) (T := 3) (v := .int .i64 a0_Until) (by kernel_rfl) (ldB ty3 (l := (([.int .i64 a0_ID, .string a0_Name, .string a0_Data, .bool a0_Sealed, .int .i64 a0_Until, .slice A_a0_Holds a0_Holds.length c_a0_Holds] : List Value))) (o := 4) (v := .int .i64 a0_Until) (ent_refl _) (by kernel_rfl))) hI ?_)
          refine OpsT.pures (r := [8, 9, 10, 11, 12, 13]) [6, 7] [1, 47, 51] (S' := [(1, .pointer (some ⟨b1, 0, none⟩)), (47, .bool true), (51, .bool (a0_Until != 0))]) (by kernel_rfl) ?_
          by_cases hb14 : (a0_Until != 0) = true
          · rw [if_pos hb14] at h1
            refine OpsT.keep [1, 47, 51] (S' := [(1, .pointer (some ⟨b1, 0, none⟩)), (47, .bool true), (51, .bool true)]) (by (try simp only [hb14]); kernel_rfl) ?_
            refine OpsT.pures (r := []) [8, 9, 10, 11, 12, 13] [1, 57] (S' := [(1, .pointer (some ⟨b1, 0, none⟩)), (57, .bool true)]) (by kernel_rfl) ?_
            refine OpsT.done ?_
            have e := someS h1
            subst e
            exact Qn.thenJ fun a ha => ⟨true, rfl, ha.keep [1, 57] (by kernel_rfl), hI⟩
          · rw [if_neg hb14] at h1
            have hb14 : (a0_Until != 0) = false := by simpa using hb14
            refine OpsT.keep [1, 47, 51] (S' := [(1, .pointer (some ⟨b1, 0, none⟩)), (47, .bool true), (51, .bool false)]) (by (try simp only [hb14]); kernel_rfl) ?_
            refine OpsT.pures (r := [9, 10, 11, 12, 13]) [8] [1, 47, 51, 52] (S' := [(1, .pointer (some ⟨b1, 0, none⟩)), (47, .bool true), (51, .bool false), (52, .pointer (some ⟨b1, 5, none⟩))]) (by kernel_rfl) ?_
            refine OpsT.cons (Does.yi (Yl.load (d := 53) (T := 22) (v := .slice A_a0_Holds a0_Holds.length c_a0_Holds) (by kernel_rfl) (ldB ty22 (l := (([.int .i64 a0_ID, .string a0_Name, .string a0_Data, .bool a0_Sealed, .int .i64 a0_Until, .slice A_a0_Holds a0_Holds.length c_a0_Holds] : List Value))) (o := 5) (v := .slice A_a0_Holds a0_Holds.length c_a0_Holds) (ent_refl _) (by kernel_rfl))) hI ?_)
            refine OpsT.pures (r := []) [10, 11, 12, 13] [1, 57] (S' := [(1, .pointer (some ⟨b1, 0, none⟩)), (57, .bool (decide ((a0_Holds.length : Int) > 0)))]) (by kernel_rfl) ?_
            refine OpsT.done ?_
            have e := someS h1
            subst e
            exact Qn.thenJ fun a ha => ⟨decide ((a0_Holds.length : Int) > 0), rfl, ha.keep [1, 57] (by kernel_rfl), hI⟩
        · rw [if_neg hb13] at h1
          have hb13 : (!a0_Sealed) = false := by simpa using hb13
          refine OpsT.keep [1, 47] (S' := [(1, .pointer (some ⟨b1, 0, none⟩)), (47, .bool false)]) (by (try simp only [hb13]); kernel_rfl) ?_
          refine OpsT.pures (r := []) [4, 5, 6, 7, 8, 9, 10, 11, 12, 13] [1, 57] (S' := [(1, .pointer (some ⟨b1, 0, none⟩)), (57, .bool false)]) (by kernel_rfl) ?_
          refine OpsT.done ?_
          have e := someS h1
          subst e
          exact Qn.thenJ fun a ha => ⟨false, rfl, ha.keep [1, 57] (by kernel_rfl), hI⟩
      ·
        rintro a w ⟨x12, rfl, ha, hI⟩
        try dsimp only at h0
        refine CodT.of ?_ ha
        by_cases hb15 : x12 = true
        · rw [if_pos hb15] at h0
          refine CodT.yes' (b := x12) (by kernel_rfl) hb15 ?_
          refine CodT.seq ?_
          refine CodT.regionL [0] (by kernel_rfl) ?_
          refine OpsT.pures (r := []) [0] [2] (S' := [(2, .bool false)]) (by kernel_rfl) ?_
          refine OpsT.done ?_
          refine Qn.then ?_
          refine CodT.ret ?_
          refine Qn.ret_then ?_
          have hI := hI.drop
          have e := someS h0
          subst e
          refine Qn.keep [2] (S' := [(2, .bool false)]) (by kernel_rfl) ?_
          exact post_ret (v := .bool false) (fun a ha => RunRes.run (vs := [.bool false]) (.tmp (t := 2) (by kernel_rfl) .nil) ha (by kernel_rfl)) ⟨rfl, hI⟩
        · rw [if_neg hb15] at h0
          refine CodT.no' (b := x12) (by kernel_rfl) (by simpa using hb15) ?_
          refine CodT.skip ?_
          refine Qn.then ?_
          refine CodT.seq ?_
          refine CodT.seq ?_
          refine CodT.regionL [0] (by kernel_rfl) ?_
          refine OpsT.pures (r := []) [0] [1, 4] (S' := [(1, .pointer (some ⟨b1, 0, none⟩)), (4, .int .i64 0)]) (by kernel_rfl) ?_
          refine OpsT.done ?_
          refine Qn.then ?_
          obtain ⟨r1, h1, h0⟩ := bindS h0
          refine CodT.meet1 (fun a w => .inr () = r1 ∧ Fr 89 [] a ∧ Inv w0 Z w A) ?_ ?_
          ·
            refine CodT.block ?_
            refine (fun a ha => wp_loopN (fun k a w => ∃ (x16 : Int), ref08_Valid.l0 a0_Holds k x16 = some r1 ∧ Fr 89 [(1, .pointer (some ⟨b1, 0, none⟩)), (4, .int .i64 x16)] a ∧ Inv w0 Z w (star (pt b1 (.cells ((([.int .i64 a0_ID, .string a0_Name, .string a0_Data, .bool a0_Sealed, .int .i64 a0_Until, .slice A_a0_Holds a0_Holds.length c_a0_Holds] : List Value))).toArray 24 (0, 0))) A)) ?_ FU a w ⟨0, h1, ha.keep [1, 4] (by kernel_rfl), hI⟩)
            clear h1 hI
            rintro k a w ⟨x16, h1, ha, hI⟩
            rcases k with _ | k
            · cases h1
            simp only [ref08_Valid.l0] at h1
            refine CodT.of ?_ ha
            refine CodT.seq ?_
            refine CodT.seq ?_
            refine CodT.regionL [0, 1, 2, 3, 4] (by kernel_rfl) ?_
            refine OpsT.pures (r := [2, 3, 4]) [0, 1] [1, 4, 58, 59] (S' := [(1, .pointer (some ⟨b1, 0, none⟩)), (4, .int .i64 x16), (58, .int .i64 x16), (59, .pointer (some ⟨b1, 5, none⟩))]) (by kernel_rfl) ?_
            refine OpsT.cons (Does.yi (Yl.load (d := 60) (T := 22) (v := .slice A_a0_Holds a0_Holds.length c_a0_Holds) (by kernel_rfl) (ldB ty22 (l := (([.int .i64 a0_ID, .string a0_Name, .string a0_Data, .bool a0_Sealed, .int .i64 a0_Until, .slice A_a0_Holds a0_Holds.length c_a0_Holds] : List Value))) (o := 5) (v := .slice A_a0_Holds a0_Holds.length c_a0_Holds) (ent_refl _) (by kernel_rfl))) hI ?_)
            refine OpsT.pures (r := []) [3, 4] [1, 4, 62] (S' := [(1, .pointer (some ⟨b1, 0, none⟩)), (4, .int .i64 x16), (62, .bool (decide (x16 < (a0_Holds.length : Int))))]) (by kernel_rfl) ?_
            refine OpsT.done ?_
            refine Qn.then ?_
            by_cases hb17 : (decide (x16 < (a0_Holds.length : Int))) = true
            · rw [if_pos hb17] at h1
              refine CodT.yes' (b := decide (x16 < (a0_Holds.length : Int))) (by kernel_rfl) hb17 ?_
              refine CodT.skip ?_
              refine Qn.then ?_
              obtain ⟨r2, h2, h1⟩ := bindS h1
              refine CodT.meet (fun a w => .inr () = r2 ∧ Fr 89 [(1, .pointer (some ⟨b1, 0, none⟩)), (4, .int .i64 x16)] a ∧ Inv w0 Z w (star (pt b1 (.cells ((([.int .i64 a0_ID, .string a0_Name, .string a0_Data, .bool a0_Sealed, .int .i64 a0_Until, .slice A_a0_Holds a0_Holds.length c_a0_Holds] : List Value))).toArray 24 (0, 0))) A)) ?_ ?_
              ·
                refine CodT.block ?_
                refine CodT.seq ?_
                refine CodT.regionL [0, 1, 2, 3, 4, 5, 6] (by kernel_rfl) ?_
                refine OpsT.pures (r := [1, 2, 3, 4, 5, 6]) [0] [1, 4, 65] (S' := [(1, .pointer (some ⟨b1, 0, none⟩)), (4, .int .i64 x16), (65, .pointer (some ⟨b1, 5, none⟩))]) (by kernel_rfl) ?_
                refine OpsT.cons (Does.yi (Yl.load (d := 66) (T := 22) (v := .slice A_a0_Holds a0_Holds.length c_a0_Holds) (by kernel_rfl) (ldB ty22 (l := (([.int .i64 a0_ID, .string a0_Name, .string a0_Data, .bool a0_Sealed, .int .i64 a0_Until, .slice A_a0_Holds a0_Holds.length c_a0_Holds] : List Value))) (o := 5) (v := .slice A_a0_Holds a0_Holds.length c_a0_Holds) (ent_refl _) (by kernel_rfl))) hI ?_)
                refine OpsT.pures (r := [3, 4, 5, 6]) [2] [1, 4, 66, 67] (S' := [(1, .pointer (some ⟨b1, 0, none⟩)), (4, .int .i64 x16), (66, .slice A_a0_Holds a0_Holds.length c_a0_Holds), (67, .int .i64 x16)]) (by kernel_rfl) ?_
                obtain ⟨hg18, h2⟩ := guardS h2
                obtain ⟨g19, o23, hA20, hr21, hl22⟩ := RdS.get hr_a0_Holds hg18.1 hg18.2
                refine OpsT.cons (Does.yi (Yl.indexSlice (d := 68) (T := 22) (cc := c_a0_Holds) (k := .i64) (j := x16) (g := g19) (o := o23) (by kernel_rfl) Go.Proofs.Tryd.underlying22 ty9 hA20 hg18.1 hg18.2) hI ?_)
                refine OpsT.cons (Does.yi (Yl.load (d := 69) (T := 9) (v := .string (gt a0_Holds x16)) (by kernel_rfl) (ldR ty9 (v := .string (gt a0_Holds x16)) 0 (fun w hC => hr21 w0 w _ hC) (by kernel_rfl))) hI ?_)
                obtain ⟨y25, hc24, h2⟩ := bindS h2
                try dsimp only at h2
                refine OpsT.cons (Does.call (d := some 70) (n := 28) (vs := [.string (gt a0_Holds x16)]) (by kernel_rfl) en28 (c28 w0 w _ _ hI hT (gt a0_Holds x16) _ hc24) ?_)
                rintro e w ⟨rfl, hI⟩
                refine ⟨_, rfl, ?_⟩
                refine OpsT.pures (r := []) [6] [1, 4, 5] (S' := [(1, .pointer (some ⟨b1, 0, none⟩)), (4, .int .i64 x16), (5, .bool y25)]) (by kernel_rfl) ?_
                refine OpsT.done ?_
                refine Qn.then ?_
                refine CodT.seq ?_
                refine CodT.seq ?_
                refine CodT.regionL [0, 1] (by kernel_rfl) ?_
                refine OpsT.pures (r := []) [0, 1] [1, 4, 72] (S' := [(1, .pointer (some ⟨b1, 0, none⟩)), (4, .int .i64 x16), (72, .bool (!y25))]) (by kernel_rfl) ?_
                refine OpsT.done ?_
                refine Qn.then ?_
                by_cases hb26 : (!y25) = true
                · rw [if_pos hb26] at h2
                  refine CodT.yes' (b := !y25) (by kernel_rfl) hb26 ?_
                  refine CodT.seq ?_
                  refine CodT.regionL [0] (by kernel_rfl) ?_
                  refine OpsT.pures (r := []) [0] [2] (S' := [(2, .bool false)]) (by kernel_rfl) ?_
                  refine OpsT.done ?_
                  refine Qn.then ?_
                  refine CodT.ret ?_
                  refine Qn.ret_then ?_
                  refine Qn.block_ret ?_
                  refine Qn.ret_then ?_
                  refine Qn.ret_then ?_
                  refine Qn.block_ret ?_
                  refine Qn.ret_then ?_
                  refine Qn.ret_then ?_
                  have hI := hI.drop
                  have e := someS h2
                  subst e
                  try dsimp only at h1
                  have e := someS h1
                  subst e
                  try dsimp only at h0
                  have e := someS h0
                  subst e
                  refine Qn.keep [2] (S' := [(2, .bool false)]) (by kernel_rfl) ?_
                  exact post_ret (v := .bool false) (fun a ha => RunRes.run (vs := [.bool false]) (.tmp (t := 2) (by kernel_rfl) .nil) ha (by kernel_rfl)) ⟨rfl, hI⟩
                · rw [if_neg hb26] at h2
                  refine CodT.no' (b := !y25) (by kernel_rfl) (by simpa using hb26) ?_
                  refine CodT.skip ?_
                  refine Qn.then ?_
                  refine CodT.seq ?_
                  refine CodT.regionL [0, 1] (by kernel_rfl) ?_
                  refine OpsT.pures (r := []) [0, 1] [1, 4, 74] (S' := [(1, .pointer (some ⟨b1, 0, none⟩)), (4, .int .i64 x16), (74, .bool (decide (x16 > 0)))]) (by kernel_rfl) ?_
                  refine OpsT.done ?_
                  refine Qn.then ?_
                  by_cases hb27 : (decide (x16 > 0)) = true
                  · rw [if_pos hb27] at h2
                    refine CodT.yes' (b := decide (x16 > 0)) (by kernel_rfl) hb27 ?_
                    refine CodT.seq ?_
                    refine CodT.drawI (n := 13) [] (by kernel_rfl) (by kernel_rfl) hI ?_
                    intro w hI
                    refine GmT.p' 0 75 (.pointer (some ⟨b1, 5, none⟩)) (by kernel_rfl) (by kernel_rfl) ?_
                    refine GmT.p' 2 77 (.int .i64 x16) (by kernel_rfl) (by kernel_rfl) ?_
                    refine GmT.p' 3 78 (.int .i64 (wi64 (x16 - 1))) (by kernel_rfl) (by kernel_rfl) ?_
                    refine GmT.p' 6 81 (.pointer (some ⟨b1, 5, none⟩)) (by kernel_rfl) (by kernel_rfl) ?_
                    refine GmT.p' 8 83 (.int .i64 x16) (by kernel_rfl) (by kernel_rfl) ?_
                    refine GmT.r (i := 1) 2 (by kernel_rfl) (by kernel_rfl) (Yl.load (d := 76) (T := 22) (v := .slice A_a0_Holds a0_Holds.length c_a0_Holds) (by kernel_rfl) (ldB ty22 (l := (([.int .i64 a0_ID, .string a0_Name, .string a0_Data, .bool a0_Sealed, .int .i64 a0_Until, .slice A_a0_Holds a0_Holds.length c_a0_Holds] : List Value))) (o := 5) (v := .slice A_a0_Holds a0_Holds.length c_a0_Holds) (ent_refl _) (by kernel_rfl))) hI ?_
                    obtain ⟨hg28, h2⟩ := guardS h2
                    obtain ⟨g29, o33, hA30, hr31, hl32⟩ := RdS.get hr_a0_Holds hg28.1 hg28.2
                    refine GmT.r (i := 4) 2 (by kernel_rfl) (by kernel_rfl) (Yl.indexSlice (d := 79) (T := 22) (cc := c_a0_Holds) (k := .i64) (j := wi64 (x16 - 1)) (g := g29) (o := o33) (by kernel_rfl) Go.Proofs.Tryd.underlying22 ty9 hA30 hg28.1 hg28.2) hI ?_
                    refine GmT.r (i := 5) 2 (by kernel_rfl) (by kernel_rfl) (Yl.load (d := 80) (T := 9) (v := .string (gt a0_Holds (wi64 (x16 - 1)))) (by kernel_rfl) (ldR ty9 (v := .string (gt a0_Holds (wi64 (x16 - 1)))) 0 (fun w hC => hr31 w0 w _ hC) (by kernel_rfl))) hI ?_
                    refine GmT.r (i := 7) 2 (by kernel_rfl) (by kernel_rfl) (Yl.load (d := 82) (T := 22) (v := .slice A_a0_Holds a0_Holds.length c_a0_Holds) (by kernel_rfl) (ldB ty22 (l := (([.int .i64 a0_ID, .string a0_Name, .string a0_Data, .bool a0_Sealed, .int .i64 a0_Until, .slice A_a0_Holds a0_Holds.length c_a0_Holds] : List Value))) (o := 5) (v := .slice A_a0_Holds a0_Holds.length c_a0_Holds) (ent_refl _) (by kernel_rfl))) hI ?_
                    obtain ⟨hg34, h2⟩ := guardS h2
                    obtain ⟨g35, o39, hA36, hr37, hl38⟩ := RdS.get hr_a0_Holds hg34.1 hg34.2
                    refine GmT.r (i := 9) 2 (by kernel_rfl) (by kernel_rfl) (Yl.indexSlice (d := 84) (T := 22) (cc := c_a0_Holds) (k := .i64) (j := x16) (g := g35) (o := o39) (by kernel_rfl) Go.Proofs.Tryd.underlying22 ty9 hA36 hg34.1 hg34.2) hI ?_
                    refine GmT.r (i := 10) 2 (by kernel_rfl) (by kernel_rfl) (Yl.load (d := 85) (T := 9) (v := .string (gt a0_Holds x16)) (by kernel_rfl) (ldR ty9 (v := .string (gt a0_Holds x16)) 0 (fun w hC => hr37 w0 w _ hC) (by kernel_rfl))) hI ?_
                    obtain ⟨y41, hc40, h2⟩ := bindS h2
                    try dsimp only at h2
                    refine GmT.o (i := 11) (by kernel_rfl) (Does.call (d := some 86) (n := 29) (vs := [.string (gt a0_Holds (wi64 (x16 - 1))), .string (gt a0_Holds x16)]) (by kernel_rfl) en29 (c29 w0 w _ _ hI hT (gt a0_Holds (wi64 (x16 - 1))) (gt a0_Holds x16) _ hc40) ?_)
                    rintro e w ⟨rfl, hI⟩
                    refine ⟨_, rfl, ?_⟩
                    refine ⟨fun _ _ => hI, ?_⟩
                    refine GmT.p' 12 6 (.bool y41) (by kernel_rfl) (by kernel_rfl) ?_
                    refine GmT.done (by kernel_rfl) ?_
                    refine Qn.then ?_
                    refine CodT.seq ?_
                    refine CodT.regionL [0, 1] (by kernel_rfl) ?_
                    refine OpsT.pures (r := []) [0, 1] [1, 4, 88] (S' := [(1, .pointer (some ⟨b1, 0, none⟩)), (4, .int .i64 x16), (88, .bool (!y41))]) (by kernel_rfl) ?_
                    refine OpsT.done ?_
                    refine Qn.then ?_
                    by_cases hb42 : (!y41) = true
                    · rw [if_pos hb42] at h2
                      refine CodT.yes' (b := !y41) (by kernel_rfl) hb42 ?_
                      refine CodT.seq ?_
                      refine CodT.regionL [0] (by kernel_rfl) ?_
                      refine OpsT.pures (r := []) [0] [2] (S' := [(2, .bool false)]) (by kernel_rfl) ?_
                      refine OpsT.done ?_
                      refine Qn.then ?_
                      refine CodT.ret ?_
                      refine Qn.block_ret ?_
                      refine Qn.ret_then ?_
                      refine Qn.ret_then ?_
                      refine Qn.block_ret ?_
                      refine Qn.ret_then ?_
                      refine Qn.ret_then ?_
                      have hI := hI.drop
                      have e := someS h2
                      subst e
                      try dsimp only at h1
                      have e := someS h1
                      subst e
                      try dsimp only at h0
                      have e := someS h0
                      subst e
                      refine Qn.keep [2] (S' := [(2, .bool false)]) (by kernel_rfl) ?_
                      exact post_ret (v := .bool false) (fun a ha => RunRes.run (vs := [.bool false]) (.tmp (t := 2) (by kernel_rfl) .nil) ha (by kernel_rfl)) ⟨rfl, hI⟩
                    · rw [if_neg hb42] at h2
                      refine CodT.no' (b := !y41) (by kernel_rfl) (by simpa using hb42) ?_
                      refine CodT.skip ?_
                      refine Qn.block_normal ?_
                      have e := someS h2
                      subst e
                      exact Qn.thenJ fun a ha => ⟨rfl, ha.keep [1, 4] (by kernel_rfl), hI⟩
                  · rw [if_neg hb27] at h2
                    refine CodT.no' (b := decide (x16 > 0)) (by kernel_rfl) (by simpa using hb27) ?_
                    refine CodT.skip ?_
                    refine Qn.block_normal ?_
                    have e := someS h2
                    subst e
                    exact Qn.thenJ fun a ha => ⟨rfl, ha.keep [1, 4] (by kernel_rfl), hI⟩
              ·
                rintro a w ⟨rfl, ha, hI⟩
                try dsimp only at h1
                refine CodT.of ?_ ha
                refine CodT.regionL [0, 1, 2] (by kernel_rfl) ?_
                refine OpsT.pures (r := []) [0, 1, 2] [1, 4] (S' := [(1, .pointer (some ⟨b1, 0, none⟩)), (4, .int .i64 (wi64 (x16 + 1)))]) (by kernel_rfl) ?_
                refine OpsT.done ?_
                exact Qn.thenJ fun a ha => ⟨k, Nat.lt_succ_self k, wi64 (x16 + 1), h1, ha.keep [1, 4] (by kernel_rfl), hI⟩
            · rw [if_neg hb17] at h1
              refine CodT.no' (b := decide (x16 < (a0_Holds.length : Int))) (by kernel_rfl) (by simpa using hb17) ?_
              refine CodT.exit ?_
              refine Qn.exit_then ?_
              refine Qn.exit_then ?_
              refine Qn.block ?_
              have hI := hI.drop
              have e := someS h1
              subst e
              exact Qn.thenJ fun a ha => ⟨rfl, ha.keep [] (by kernel_rfl), hI⟩
          ·
            rintro a w ⟨rfl, ha, hI⟩
            try dsimp only at h0
            refine Qn.of ?_ ha
            refine Qn.then ?_
            refine CodT.seq ?_
            refine CodT.regionL [0] (by kernel_rfl) ?_
            refine OpsT.pures (r := []) [0] [2] (S' := [(2, .bool true)]) (by kernel_rfl) ?_
            refine OpsT.done ?_
            refine Qn.then ?_
            refine CodT.ret ?_
            have e := someS h0
            subst e
            refine Qn.keep [2] (S' := [(2, .bool true)]) (by kernel_rfl) ?_
            exact post_ret (v := .bool true) (fun a ha => RunRes.run (vs := [.bool true]) (.tmp (t := 2) (by kernel_rfl) .nil) ha (by kernel_rfl)) ⟨rfl, hI⟩
set_option maxRecDepth 100000 in
set_option maxHeartbeats 4000000 in
/-- cenotaph/cenotaphref07.Texts -/
theorem c30 (w0 w : World) (Z : Hp) (A : HP) (hI : Inv w0 Z w A) (hT : Tabs Z) (A_a0 : Option Addr) (c_a0 : Nat) (a0 : (List ByteArray)) (hr_a0 : RdS Z cS 1 A_a0 c_a0 a0) (A_a1 : Option Addr) (c_a1 : Nat) (a1 : (List ByteArray)) (hr_a1 : RdS Z cS 1 A_a1 c_a1 a1) (r : Bool) (h0 : ref07_Texts a0 a1 = some r) :
    Calls prog 30 #[.slice A_a0 a0.length c_a0, .slice A_a1 a1.length c_a1] w (fun e w' => e = .returned (.bool r) ∧ Inv w0 Z w' A) := by
  have e4 := calls_intro (R := (fun e w' => e = .returned (.bool r) ∧ Inv w0 Z w' A)) (w := w) (args := [.slice A_a0 a0.length c_a0, .slice A_a1 a1.length c_a1]) (fn := Go.Proofs.Tryd.f30) 26 Go.Proofs.Tryd.func30 (by rfl) Go.Proofs.Tryd.ntmps30 (by kernel_rfl)
  refine e4 ?_
  clear e4
  unfold ref07_Texts at h0
  refine CodT.seq ?_
  refine CodT.regionL [0] (by kernel_rfl) ?_
  refine OpsT.pures (r := []) [0] [0, 1] (S' := [(0, .slice A_a0 a0.length c_a0), (1, .slice A_a1 a1.length c_a1)]) (by kernel_rfl) ?_
  refine OpsT.done ?_
  refine Qn.then ?_
  refine CodT.seq ?_
  refine CodT.seq ?_
  refine CodT.regionL [0, 1, 2, 3, 4] (by kernel_rfl) ?_
  refine OpsT.pures (r := []) [0, 1, 2, 3, 4] [0, 1, 10] (S' := [(0, .slice A_a0 a0.length c_a0), (1, .slice A_a1 a1.length c_a1), (10, .bool ((a0.length : Int) != (a1.length : Int)))]) (by kernel_rfl) ?_
  refine OpsT.done ?_
  refine Qn.then ?_
  by_cases hb1 : ((a0.length : Int) != (a1.length : Int)) = true
  · rw [if_pos hb1] at h0
    refine CodT.yes' (b := (a0.length : Int) != (a1.length : Int)) (by kernel_rfl) hb1 ?_
    refine CodT.seq ?_
    refine CodT.regionL [0] (by kernel_rfl) ?_
    refine OpsT.pures (r := []) [0] [4] (S' := [(4, .bool false)]) (by kernel_rfl) ?_
    refine OpsT.done ?_
    refine Qn.then ?_
    refine CodT.ret ?_
    refine Qn.ret_then ?_
    have e := someS h0
    subst e
    refine Qn.keep [4] (S' := [(4, .bool false)]) (by kernel_rfl) ?_
    exact post_ret (v := .bool false) (fun a ha => RunRes.run (vs := [.bool false]) (.tmp (t := 4) (by kernel_rfl) .nil) ha (by kernel_rfl)) ⟨rfl, hI⟩
  · rw [if_neg hb1] at h0
    refine CodT.no' (b := (a0.length : Int) != (a1.length : Int)) (by kernel_rfl) (by simpa using hb1) ?_
    refine CodT.skip ?_
    refine Qn.then ?_
    refine CodT.seq ?_
    refine CodT.seq ?_
    refine CodT.regionL [0] (by kernel_rfl) ?_
    refine OpsT.pures (r := []) [0] [0, 1, 5] (S' := [(0, .slice A_a0 a0.length c_a0), (1, .slice A_a1 a1.length c_a1), (5, .int .i64 0)]) (by kernel_rfl) ?_
    refine OpsT.done ?_
    refine Qn.then ?_
    obtain ⟨r1, h1, h0⟩ := bindS h0
    refine CodT.meet1 (fun a w => .inr () = r1 ∧ Fr 26 [] a ∧ Inv w0 Z w A) ?_ ?_
    ·
      refine CodT.block ?_
      refine (fun a ha => wp_loopN (fun k a w => ∃ (x2 : Int), ref07_Texts.l0 a0 a1 k x2 = some r1 ∧ Fr 26 [(0, .slice A_a0 a0.length c_a0), (1, .slice A_a1 a1.length c_a1), (5, .int .i64 x2)] a ∧ Inv w0 Z w A) ?_ FU a w ⟨0, h1, ha.keep [0, 1, 5] (by kernel_rfl), hI⟩)
      clear h1 hI
      rintro k a w ⟨x2, h1, ha, hI⟩
      rcases k with _ | k
      · cases h1
      simp only [ref07_Texts.l0] at h1
      refine CodT.of ?_ ha
      refine CodT.seq ?_
      refine CodT.seq ?_
      refine CodT.regionL [0, 1, 2, 3] (by kernel_rfl) ?_
      refine OpsT.pures (r := []) [0, 1, 2, 3] [0, 1, 5, 14] (S' := [(0, .slice A_a0 a0.length c_a0), (1, .slice A_a1 a1.length c_a1), (5, .int .i64 x2), (14, .bool (decide (x2 < (a0.length : Int))))]) (by kernel_rfl) ?_
      refine OpsT.done ?_
      refine Qn.then ?_
      by_cases hb3 : (decide (x2 < (a0.length : Int))) = true
      · rw [if_pos hb3] at h1
        refine CodT.yes' (b := decide (x2 < (a0.length : Int))) (by kernel_rfl) hb3 ?_
        refine CodT.skip ?_
        refine Qn.then ?_
        refine CodT.seq ?_
        refine CodT.block ?_
        refine CodT.seq ?_
        refine CodT.drawI (n := 9) [] (by kernel_rfl) (by kernel_rfl) hI ?_
        intro w hI
        refine GmT.p' 0 17 (.slice A_a0 a0.length c_a0) (by kernel_rfl) (by kernel_rfl) ?_
        refine GmT.p' 1 18 (.int .i64 x2) (by kernel_rfl) (by kernel_rfl) ?_
        refine GmT.p' 4 21 (.slice A_a1 a1.length c_a1) (by kernel_rfl) (by kernel_rfl) ?_
        refine GmT.p' 5 22 (.int .i64 x2) (by kernel_rfl) (by kernel_rfl) ?_
        obtain ⟨hg4, h1⟩ := guardS h1
        obtain ⟨g5, o9, hA6, hr7, hl8⟩ := RdS.get hr_a0 hg4.1 hg4.2
        refine GmT.r (i := 2) 2 (by kernel_rfl) (by kernel_rfl) (Yl.indexSlice (d := 19) (T := 22) (cc := c_a0) (k := .i64) (j := x2) (g := g5) (o := o9) (by kernel_rfl) Go.Proofs.Tryd.underlying22 ty9 hA6 hg4.1 hg4.2) hI ?_
        refine GmT.r (i := 3) 2 (by kernel_rfl) (by kernel_rfl) (Yl.load (d := 20) (T := 9) (v := .string (gt a0 x2)) (by kernel_rfl) (ldR ty9 (v := .string (gt a0 x2)) 0 (fun w hC => hr7 w0 w _ hC) (by kernel_rfl))) hI ?_
        obtain ⟨hg10, h1⟩ := guardS h1
        obtain ⟨g11, o15, hA12, hr13, hl14⟩ := RdS.get hr_a1 hg10.1 hg10.2
        refine GmT.r (i := 6) 2 (by kernel_rfl) (by kernel_rfl) (Yl.indexSlice (d := 23) (T := 22) (cc := c_a1) (k := .i64) (j := x2) (g := g11) (o := o15) (by kernel_rfl) Go.Proofs.Tryd.underlying22 ty9 hA12 hg10.1 hg10.2) hI ?_
        refine GmT.r (i := 7) 2 (by kernel_rfl) (by kernel_rfl) (Yl.load (d := 24) (T := 9) (v := .string (gt a1 x2)) (by kernel_rfl) (ldR ty9 (v := .string (gt a1 x2)) 0 (fun w hC => hr13 w0 w _ hC) (by kernel_rfl))) hI ?_
        refine GmT.p' 8 25 (.bool (!(seq (gt a0 x2) (gt a1 x2)))) (by kernel_rfl) (by kernel_rfl) ?_
        refine GmT.done (by kernel_rfl) ?_
        refine Qn.then ?_
        by_cases hb16 : (!(seq (gt a0 x2) (gt a1 x2))) = true
        · rw [if_pos hb16] at h1
          refine CodT.yes' (b := !(seq (gt a0 x2) (gt a1 x2))) (by kernel_rfl) hb16 ?_
          refine CodT.seq ?_
          refine CodT.regionL [0] (by kernel_rfl) ?_
          refine OpsT.pures (r := []) [0] [4] (S' := [(4, .bool false)]) (by kernel_rfl) ?_
          refine OpsT.done ?_
          refine Qn.then ?_
          refine CodT.ret ?_
          refine Qn.block_ret ?_
          refine Qn.ret_then ?_
          refine Qn.ret_then ?_
          refine Qn.block_ret ?_
          refine Qn.ret_then ?_
          refine Qn.ret_then ?_
          have e := someS h1
          subst e
          try dsimp only at h0
          have e := someS h0
          subst e
          refine Qn.keep [4] (S' := [(4, .bool false)]) (by kernel_rfl) ?_
          exact post_ret (v := .bool false) (fun a ha => RunRes.run (vs := [.bool false]) (.tmp (t := 4) (by kernel_rfl) .nil) ha (by kernel_rfl)) ⟨rfl, hI⟩
        · rw [if_neg hb16] at h1
          refine CodT.no' (b := !(seq (gt a0 x2) (gt a1 x2))) (by kernel_rfl) (by simpa using hb16) ?_
          refine CodT.skip ?_
          refine Qn.block_normal ?_
          refine Qn.then ?_
          refine CodT.regionL [0, 1, 2] (by kernel_rfl) ?_
          refine OpsT.pures (r := []) [0, 1, 2] [0, 1, 5] (S' := [(0, .slice A_a0 a0.length c_a0), (1, .slice A_a1 a1.length c_a1), (5, .int .i64 (wi64 (x2 + 1)))]) (by kernel_rfl) ?_
          refine OpsT.done ?_
          exact Qn.thenJ fun a ha => ⟨k, Nat.lt_succ_self k, wi64 (x2 + 1), h1, ha.keep [0, 1, 5] (by kernel_rfl), hI⟩
      · rw [if_neg hb3] at h1
        refine CodT.no' (b := decide (x2 < (a0.length : Int))) (by kernel_rfl) (by simpa using hb3) ?_
        refine CodT.exit ?_
        refine Qn.exit_then ?_
        refine Qn.exit_then ?_
        refine Qn.block ?_
        have e := someS h1
        subst e
        exact Qn.thenJ fun a ha => ⟨rfl, ha.keep [] (by kernel_rfl), hI⟩
    ·
      rintro a w ⟨rfl, ha, hI⟩
      try dsimp only at h0
      refine Qn.of ?_ ha
      refine Qn.then ?_
      refine CodT.seq ?_
      refine CodT.regionL [0] (by kernel_rfl) ?_
      refine OpsT.pures (r := []) [0] [4] (S' := [(4, .bool true)]) (by kernel_rfl) ?_
      refine OpsT.done ?_
      refine Qn.then ?_
      refine CodT.ret ?_
      have e := someS h0
      subst e
      refine Qn.keep [4] (S' := [(4, .bool true)]) (by kernel_rfl) ?_
      exact post_ret (v := .bool true) (fun a ha => RunRes.run (vs := [.bool true]) (.tmp (t := 4) (by kernel_rfl) .nil) ha (by kernel_rfl)) ⟨rfl, hI⟩
set_option maxRecDepth 100000 in
set_option maxHeartbeats 4000000 in
/-- cenotaph/cenotaphref07.Same -/
theorem c16 (w0 w : World) (Z : Hp) (A : HP) (hI : Inv w0 Z w A) (hT : Tabs Z) (a0_ID : Int) (a0_Name : ByteArray) (a0_Data : ByteArray) (a0_Sealed : Bool) (a0_Until : Int) (A_a0_Holds : Option Addr) (c_a0_Holds : Nat) (a0_Holds : (List ByteArray)) (hr_a0_Holds : RdS Z cS 1 A_a0_Holds c_a0_Holds a0_Holds) (a1_ID : Int) (a1_Name : ByteArray) (a1_Data : ByteArray) (a1_Sealed : Bool) (a1_Until : Int) (A_a1_Holds : Option Addr) (c_a1_Holds : Nat) (a1_Holds : (List ByteArray)) (hr_a1_Holds : RdS Z cS 1 A_a1_Holds c_a1_Holds a1_Holds) (r : Bool) (h0 : ref07_Same a0_ID a0_Name a0_Data a0_Sealed a0_Until a0_Holds a1_ID a1_Name a1_Data a1_Sealed a1_Until a1_Holds = some r) :
    Calls prog 16 #[.agg ((([.int .i64 a0_ID, .string a0_Name, .string a0_Data, .bool a0_Sealed, .int .i64 a0_Until, .slice A_a0_Holds a0_Holds.length c_a0_Holds] : List Value))).toArray, .agg ((([.int .i64 a1_ID, .string a1_Name, .string a1_Data, .bool a1_Sealed, .int .i64 a1_Until, .slice A_a1_Holds a1_Holds.length c_a1_Holds] : List Value))).toArray] w (fun e w' => e = .returned (.bool r) ∧ Inv w0 Z w' A) := by
  have e4 := calls_intro (R := (fun e w' => e = .returned (.bool r) ∧ Inv w0 Z w' A)) (w := w) (args := [.agg ((([.int .i64 a0_ID, .string a0_Name, .string a0_Data, .bool a0_Sealed, .int .i64 a0_Until, .slice A_a0_Holds a0_Holds.length c_a0_Holds] : List Value))).toArray, .agg ((([.int .i64 a1_ID, .string a1_Name, .string a1_Data, .bool a1_Sealed, .int .i64 a1_Until, .slice A_a1_Holds a1_Holds.length c_a1_Holds] : List Value))).toArray]) (fn := Go.Proofs.Tryd.f16) 45 Go.Proofs.Tryd.func16 (by rfl) Go.Proofs.Tryd.ntmps16 (by kernel_rfl)
  refine e4 ?_
  clear e4
  unfold ref07_Same at h0
  refine CodT.seq ?_
  refine CodT.regionL [0, 1, 2] (by kernel_rfl) ?_
  refine OpsT.cons (Does.boxL (d := 2) (T := 24) (v := .agg ((([.int .i64 a0_ID, .string a0_Name, .string a0_Data, .bool a0_Sealed, .int .i64 a0_Until, .slice A_a0_Holds a0_Holds.length c_a0_Holds] : List Value))).toArray) ((([.int .i64 a0_ID, .string a0_Name, .string a0_Data, .bool a0_Sealed, .int .i64 a0_Until, .slice A_a0_Holds a0_Holds.length c_a0_Holds] : List Value))) (by kernel_rfl) hI (by kernel_rfl) ?_)
  intro b1 w hI
  refine OpsT.cons (Does.boxL (d := 3) (T := 24) (v := .agg ((([.int .i64 a1_ID, .string a1_Name, .string a1_Data, .bool a1_Sealed, .int .i64 a1_Until, .slice A_a1_Holds a1_Holds.length c_a1_Holds] : List Value))).toArray) ((([.int .i64 a1_ID, .string a1_Name, .string a1_Data, .bool a1_Sealed, .int .i64 a1_Until, .slice A_a1_Holds a1_Holds.length c_a1_Holds] : List Value))) (by kernel_rfl) hI (by kernel_rfl) ?_)
  intro b2 w hI
  refine OpsT.pures (r := []) [2] [2, 3] (S' := [(2, .pointer (some ⟨b1, 0, none⟩)), (3, .pointer (some ⟨b2, 0, none⟩))]) (by kernel_rfl) ?_
  refine OpsT.done ?_
  refine Qn.then ?_
  obtain ⟨r1, h1, h0⟩ := bindS h0
  refine CodT.meet (fun a w => ∃ (x3 : Bool), x3 = r1 ∧ Fr 45 [(4, .bool x3)] a ∧ Inv w0 Z w A) ?_ ?_
  ·
    refine CodT.regionL [0, 1, 2, 3, 4, 5, 6, 7, 8, 9, 10, 11, 12, 13, 14, 15, 16, 17, 18, 19, 20, 21, 22, 23, 24, 25, 26, 27, 28, 29, 30, 31, 32, 33, 34, 35, 36, 37, 38, 39, 40] (by kernel_rfl) ?_
    refine OpsT.pures (r := [1, 2, 3, 4, 5, 6, 7, 8, 9, 10, 11, 12, 13, 14, 15, 16, 17, 18, 19, 20, 21, 22, 23, 24, 25, 26, 27, 28, 29, 30, 31, 32, 33, 34, 35, 36, 37, 38, 39, 40]) [0] [2, 3, 5] (S' := [(2, .pointer (some ⟨b1, 0, none⟩)), (3, .pointer (some ⟨b2, 0, none⟩)), (5, .pointer (some ⟨b1, 0, none⟩))]) (by kernel_rfl) ?_
    refine OpsT.cons (Does.yi (Yl.load (d := 6) (T := 3) (v := .int .i64 a0_ID) (by kernel_rfl) (ldB ty3 (l := (([.int .i64 a0_ID, .string a0_Name, .string a0_Data, .bool a0_Sealed, .int .i64 a0_Until, .slice A_a0_Holds a0_Holds.length c_a0_Holds] : List Value))) (o := 0) (v := .int .i64 a0_ID) (pick2 _ _ _) (by kernel_rfl))) hI ?_)
    refine OpsT.pures (r := [3, 4, 5, 6, 7, 8, 9, 10, 11, 12, 13, 14, 15, 16, 17, 18, 19, 20, 21, 22, 23, 24, 25, 26, 27, 28, 29, 30, 31, 32, 33, 34, 35, 36, 37, 38, 39, 40]) [2] [2, 3, 6, 7] (S' := [(2, .pointer (some ⟨b1, 0, none⟩)), (3, .pointer (some ⟨b2, 0, none⟩)), (6, .int .i64 a0_ID), (7, .pointer (some ⟨b2, 0, none⟩))]) (by kernel_rfl) ?_
    refine OpsT.cons (Does.yi (Yl.load (d := 8) (T := 3) (v := .int .i64 a1_ID) (by kernel_rfl) (ldB ty3 (l := (([.int .i64 a1_ID, .string a1_Name, .string a1_Data, .bool a1_Sealed, .int .i64 a1_Until, .slice A_a1_Holds a1_Holds.length c_a1_Holds] : List Value))) (o := 0) (v := .int .i64 a1_ID) (ent_refl _) (by kernel_rfl))) hI ?_)
    refine OpsT.pures (r := [6, 7, 8, 9, 10, 11, 12, 13, 14, 15, 16, 17, 18, 19, 20, 21, 22, 23, 24, 25, 26, 27, 28, 29, 30, 31, 32, 33, 34, 35, 36, 37, 38, 39, 40]) [4, 5] [2, 3, 10] (S' := [(2, .pointer (some ⟨b1, 0, none⟩)), (3, .pointer (some ⟨b2, 0, none⟩)), (10, .bool (a0_ID == a1_ID))]) (by kernel_rfl) ?_
    by_cases hb4 : (a0_ID == a1_ID) = true
    · rw [if_pos hb4] at h1
      refine OpsT.keep [2, 3, 10] (S' := [(2, .pointer (some ⟨b1, 0, none⟩)), (3, .pointer (some ⟨b2, 0, none⟩)), (10, .bool true)]) (by (try simp only [hb4]); kernel_rfl) ?_
      refine OpsT.pures (r := [7, 8, 9, 10, 11, 12, 13, 14, 15, 16, 17, 18, 19, 20, 21, 22, 23, 24, 25, 26, 27, 28, 29, 30, 31, 32, 33, 34, 35, 36, 37, 38, 39, 40]) [6] [2, 3, 10, 11] (S' := [(2, .pointer (some ⟨b1, 0, none⟩)), (3, .pointer (some ⟨b2, 0, none⟩)), (10, .bool true), (11, .pointer (some ⟨b1, 1, none⟩))]) (by kernel_rfl) ?_
      refine OpsT.cons (Does.yi (Yl.load (d := 12) (T := 9) (v := .string a0_Name) (by kernel_rfl) (ldB ty9 (l := (([.int .i64 a0_ID, .string a0_Name, .string a0_Data, .bool a0_Sealed, .int .i64 a0_Until, .slice A_a0_Holds a0_Holds.length c_a0_Holds] : List Value))) (o := 1) (v := .string a0_Name) (pick2 _ _ _) (by kernel_rfl))) hI ?_)
      refine OpsT.pures (r := [9, 10, 11, 12, 13, 14, 15, 16, 17, 18, 19, 20, 21, 22, 23, 24, 25, 26, 27, 28, 29, 30, 31, 32, 33, 34, 35, 36, 37, 38, 39, 40]) [8] [2, 3, 10, 12, 13] (S' := [(2, .pointer (some ⟨b1, 0, none⟩)), (3, .pointer (some ⟨b2, 0, none⟩)), (10, .bool true), (12, .string a0_Name), (13, .pointer (some ⟨b2, 1, none⟩))]) (by kernel_rfl) ?_
      refine OpsT.cons (Does.yi (Yl.load (d := 14) (T := 9) (v := .string a1_Name) (by kernel_rfl) (ldB ty9 (l := (([.int .i64 a1_ID, .string a1_Name, .string a1_Data, .bool a1_Sealed, .int .i64 a1_Until, .slice A_a1_Holds a1_Holds.length c_a1_Holds] : List Value))) (o := 1) (v := .string a1_Name) (ent_refl _) (by kernel_rfl))) hI ?_)
      refine OpsT.pures (r := [13, 14, 15, 16, 17, 18, 19, 20, 21, 22, 23, 24, 25, 26, 27, 28, 29, 30, 31, 32, 33, 34, 35, 36, 37, 38, 39, 40]) [10, 11, 12] [2, 3, 17] (S' := [(2, .pointer (some ⟨b1, 0, none⟩)), (3, .pointer (some ⟨b2, 0, none⟩)), (17, .bool (seq a0_Name a1_Name))]) (by kernel_rfl) ?_
      by_cases hb5 : (seq a0_Name a1_Name) = true
      · rw [if_pos hb5] at h1
        refine OpsT.keep [2, 3, 17] (S' := [(2, .pointer (some ⟨b1, 0, none⟩)), (3, .pointer (some ⟨b2, 0, none⟩)), (17, .bool true)]) (by (try simp only [hb5]); kernel_rfl) ?_
        refine OpsT.pures (r := [14, 15, 16, 17, 18, 19, 20, 21, 22, 23, 24, 25, 26, 27, 28, 29, 30, 31, 32, 33, 34, 35, 36, 37, 38, 39, 40]) [13] [2, 3, 17, 18] (S' := [(2, .pointer (some ⟨b1, 0, none⟩)), (3, .pointer (some ⟨b2, 0, none⟩)), (17, .bool true), (18, .pointer (some ⟨b1, 2, none⟩))]) (by kernel_rfl) ?_
        refine OpsT.cons (Does.yi (Yl.load (d := 19) (T := 9) (v := .string a0_Data) (by kernel_rfl) (ldB ty9 (l := (([.int .i64 a0_ID, .string a0_Name, .string a0_Data, .bool a0_Sealed, .int .i64 a0_Until, .slice A_a0_Holds a0_Holds.length c_a0_Holds] : List Value))) (o := 2) (v := .string a0_Data) (pick2 _ _ _) (by kernel_rfl))) hI ?_)
        refine OpsT.pures (r := [16, 17, 18, 19, 20, 21, 22, 23, 24, 25, 26, 27, 28, 29, 30, 31, 32, 33, 34, 35, 36, 37, 38, 39, 40]) [15] [2, 3, 17, 19, 20] (S' := [(2, .pointer (some ⟨b1, 0, none⟩)), (3, .pointer (some ⟨b2, 0, none⟩)), (17, .bool true), (19, .string a0_Data), (20, .pointer (some ⟨b2, 2, none⟩))]) (by kernel_rfl) ?_
        refine OpsT.cons (Does.yi (Yl.load (d := 21) (T := 9) (v := .string a1_Data) (by kernel_rfl) (ldB ty9 (l := (([.int .i64 a1_ID, .string a1_Name, .string a1_Data, .bool a1_Sealed, .int .i64 a1_Until, .slice A_a1_Holds a1_Holds.length c_a1_Holds] : List Value))) (o := 2) (v := .string a1_Data) (ent_refl _) (by kernel_rfl))) hI ?_)
        refine OpsT.pures (r := [20, 21, 22, 23, 24, 25, 26, 27, 28, 29, 30, 31, 32, 33, 34, 35, 36, 37, 38, 39, 40]) [17, 18, 19] [2, 3, 24] (S' := [(2, .pointer (some ⟨b1, 0, none⟩)), (3, .pointer (some ⟨b2, 0, none⟩)), (24, .bool (seq a0_Data a1_Data))]) (by kernel_rfl) ?_
        by_cases hb6 : (seq a0_Data a1_Data) = true
        · rw [if_pos hb6] at h1
          refine OpsT.keep [2, 3, 24] (S' := [(2, .pointer (some ⟨b1, 0, none⟩)), (3, .pointer (some ⟨b2, 0, none⟩)), (24, .bool true)]) (by (try simp only [hb6]); kernel_rfl) ?_
          refine OpsT.pures (r := [21, 22, 23, 24, 25, 26, 27, 28, 29, 30, 31, 32, 33, 34, 35, 36, 37, 38, 39, 40]) [20] [2, 3, 24, 25] (S' := [(2, .pointer (some ⟨b1, 0, none⟩)), (3, .pointer (some ⟨b2, 0, none⟩)), (24, .bool true), (25, .pointer (some ⟨b1, 3, none⟩))]) (by kernel_rfl) ?_
          refine OpsT.cons (Does.yi (Yl.load (d := 26) (T := 4) (v := .bool a0_Sealed) (by kernel_rfl) (ldB ty4 (l := (([.int .i64 a0_ID, .string a0_Name, .string a0_Data, .bool a0_Sealed, .int .i64 a0_Until, .slice A_a0_Holds a0_Holds.length c_a0_Holds] : List Value))) (o := 3) (v := .bool a0_Sealed) (pick2 _ _ _) (by kernel_rfl))) hI ?_)
          refine OpsT.pures (r := [23, 24, 25, 26, 27, 28, 29, 30, 31, 32, 33, 34, 35, 36, 37, 38, 39, 40]) [22] [2, 3, 24, 26, 27] (S' := [(2, .pointer (some ⟨b1, 0, none⟩)), (3, .pointer (some ⟨b2, 0, none⟩)), (24, .bool true), (26, .bool a0_Sealed), (27, .pointer (some ⟨b2, 3, none⟩))]) (by kernel_rfl) ?_
          refine OpsT.cons (Does.yi (Yl.load (d := 28) (T := 4) (v := .bool a1_Sealed) (by kernel_rfl) (ldB ty4 (l := (([.int .i64 a1_ID, .string a1_Name, .string a1_Data, .bool a1_Sealed, .int .i64 a1_Until, .slice A_a1_Holds a1_Holds.length c_a1_Holds] : List Value))) (o := 3) (v := .bool a1_Sealed) (ent_refl _) (by kernel_rfl))) hI ?_)
          refine OpsT.pures (r := [27, 28, 29, 30, 31, 32, 33, 34, 35, 36, 37, 38, 39, 40]) [24, 25, 26] [2, 3, 31] (S' := [(2, .pointer (some ⟨b1, 0, none⟩)), (3, .pointer (some ⟨b2, 0, none⟩)), (31, .bool (a0_Sealed == a1_Sealed))]) (by kernel_rfl) ?_
          by_cases hb7 : (a0_Sealed == a1_Sealed) = true
          · rw [if_pos hb7] at h1
            refine OpsT.keep [2, 3, 31] (S' := [(2, .pointer (some ⟨b1, 0, none⟩)), (3, .pointer (some ⟨b2, 0, none⟩)), (31, .bool true)]) (by (try simp only [hb7]); kernel_rfl) ?_
            refine OpsT.pures (r := [28, 29, 30, 31, 32, 33, 34, 35, 36, 37, 38, 39, 40]) [27] [2, 3, 31, 32] (S' := [(2, .pointer (some ⟨b1, 0, none⟩)), (3, .pointer (some ⟨b2, 0, none⟩)), (31, .bool true), (32, .pointer (some ⟨b1, 4, none⟩))]) (by kernel_rfl) ?_
            refine OpsT.cons (Does.yi (Yl.load (d := 33) (T := 3) (v := .int .i64 a0_Until) (by kernel_rfl) (ldB ty3 (l := (([.int .i64 a0_ID, .string a0_Name, .string a0_Data, .bool a0_Sealed, .int .i64 a0_Until, .slice A_a0_Holds a0_Holds.length c_a0_Holds] : List Value))) (o := 4) (v := .int .i64 a0_Until) (pick2 _ _ _) (by kernel_rfl))) hI ?_)
            refine OpsT.pures (r := [30, 31, 32, 33, 34, 35, 36, 37, 38, 39, 40]) [29] [2, 3, 31, 33, 34] (S' := [(2, .pointer (some ⟨b1, 0, none⟩)), (3, .pointer (some ⟨b2, 0, none⟩)), (31, .bool true), (33, .int .i64 a0_Until), (34, .pointer (some ⟨b2, 4, none⟩))]) (by kernel_rfl) ?_
            refine OpsT.cons (Does.yi (Yl.load (d := 35) (T := 3) (v := .int .i64 a1_Until) (by kernel_rfl) (ldB ty3 (l := (([.int .i64 a1_ID, .string a1_Name, .string a1_Data, .bool a1_Sealed, .int .i64 a1_Until, .slice A_a1_Holds a1_Holds.length c_a1_Holds] : List Value))) (o := 4) (v := .int .i64 a1_Until) (ent_refl _) (by kernel_rfl))) hI ?_)
            refine OpsT.pures (r := [34, 35, 36, 37, 38, 39, 40]) [31, 32, 33] [2, 3, 38] (S' := [(2, .pointer (some ⟨b1, 0, none⟩)), (3, .pointer (some ⟨b2, 0, none⟩)), (38, .bool (a0_Until == a1_Until))]) (by kernel_rfl) ?_
            by_cases hb8 : (a0_Until == a1_Until) = true
            · rw [if_pos hb8] at h1
              refine OpsT.keep [2, 3, 38] (S' := [(2, .pointer (some ⟨b1, 0, none⟩)), (3, .pointer (some ⟨b2, 0, none⟩)), (38, .bool true)]) (by (try simp only [hb8]); kernel_rfl) ?_
              refine OpsT.pures (r := [35, 36, 37, 38, 39, 40]) [34] [3, 38, 39] (S' := [(3, .pointer (some ⟨b2, 0, none⟩)), (38, .bool true), (39, .pointer (some ⟨b1, 5, none⟩))]) (by kernel_rfl) ?_
              refine OpsT.cons (Does.yi (Yl.load (d := 40) (T := 22) (v := .slice A_a0_Holds a0_Holds.length c_a0_Holds) (by kernel_rfl) (ldB ty22 (l := (([.int .i64 a0_ID, .string a0_Name, .string a0_Data, .bool a0_Sealed, .int .i64 a0_Until, .slice A_a0_Holds a0_Holds.length c_a0_Holds] : List Value))) (o := 5) (v := .slice A_a0_Holds a0_Holds.length c_a0_Holds) (pick2 _ _ _) (by kernel_rfl))) hI ?_)
              refine OpsT.pures (r := [37, 38, 39, 40]) [36] [38, 40, 41] (S' := [(38, .bool true), (40, .slice A_a0_Holds a0_Holds.length c_a0_Holds), (41, .pointer (some ⟨b2, 5, none⟩))]) (by kernel_rfl) ?_
              refine OpsT.cons (Does.yi (Yl.load (d := 42) (T := 22) (v := .slice A_a1_Holds a1_Holds.length c_a1_Holds) (by kernel_rfl) (ldB ty22 (l := (([.int .i64 a1_ID, .string a1_Name, .string a1_Data, .bool a1_Sealed, .int .i64 a1_Until, .slice A_a1_Holds a1_Holds.length c_a1_Holds] : List Value))) (o := 5) (v := .slice A_a1_Holds a1_Holds.length c_a1_Holds) (ent_refl _) (by kernel_rfl))) hI ?_)
              obtain ⟨y10, hc9, h1⟩ := bindS h1
              try dsimp only at h1
              refine OpsT.cons (Does.call (d := some 43) (n := 30) (vs := [.slice A_a0_Holds a0_Holds.length c_a0_Holds, .slice A_a1_Holds a1_Holds.length c_a1_Holds]) (by kernel_rfl) en30 (c30 w0 w _ _ hI hT A_a0_Holds c_a0_Holds a0_Holds hr_a0_Holds A_a1_Holds c_a1_Holds a1_Holds hr_a1_Holds _ hc9) ?_)
              rintro e w ⟨rfl, hI⟩
              refine ⟨_, rfl, ?_⟩
              refine OpsT.pures (r := []) [39, 40] [4] (S' := [(4, .bool y10)]) (by kernel_rfl) ?_
              refine OpsT.done ?_
              have hI := hI.drop
              have hI := hI.drop
              have e := someS h1
              subst e
              exact Qn.thenJ fun a ha => ⟨y10, rfl, ha.keep [4] (by kernel_rfl), hI⟩
            · rw [if_neg hb8] at h1
              have hb8 : (a0_Until == a1_Until) = false := by simpa using hb8
              refine OpsT.keep [2, 3, 38] (S' := [(2, .pointer (some ⟨b1, 0, none⟩)), (3, .pointer (some ⟨b2, 0, none⟩)), (38, .bool false)]) (by (try simp only [hb8]); kernel_rfl) ?_
              refine OpsT.pures (r := []) [34, 35, 36, 37, 38, 39, 40] [4] (S' := [(4, .bool false)]) (by kernel_rfl) ?_
              refine OpsT.done ?_
              have hI := hI.drop
              have hI := hI.drop
              have e := someS h1
              subst e
              exact Qn.thenJ fun a ha => ⟨false, rfl, ha.keep [4] (by kernel_rfl), hI⟩
          · rw [if_neg hb7] at h1
            have hb7 : (a0_Sealed == a1_Sealed) = false := by simpa using hb7
            refine OpsT.keep [2, 3, 31] (S' := [(2, .pointer (some ⟨b1, 0, none⟩)), (3, .pointer (some ⟨b2, 0, none⟩)), (31, .bool false)]) (by (try simp only [hb7]); kernel_rfl) ?_
            refine OpsT.pures (r := []) [27, 28, 29, 30, 31, 32, 33, 34, 35, 36, 37, 38, 39, 40] [4] (S' := [(4, .bool false)]) (by kernel_rfl) ?_
            refine OpsT.done ?_
            have hI := hI.drop
            have hI := hI.drop
            have e := someS h1
            subst e
            exact Qn.thenJ fun a ha => ⟨false, rfl, ha.keep [4] (by kernel_rfl), hI⟩
        · rw [if_neg hb6] at h1
          have hb6 : (seq a0_Data a1_Data) = false := by simpa using hb6
          refine OpsT.keep [2, 3, 24] (S' := [(2, .pointer (some ⟨b1, 0, none⟩)), (3, .pointer (some ⟨b2, 0, none⟩)), (24, .bool false)]) (by (try simp only [hb6]); kernel_rfl) ?_
          refine OpsT.pures (r := []) [20, 21, 22, 23, 24, 25, 26, 27, 28, 29, 30, 31, 32, 33, 34, 35, 36, 37, 38, 39, 40] [4] (S' := [(4, .bool false)]) (by kernel_rfl) ?_
          refine OpsT.done ?_
          have hI := hI.drop
          have hI := hI.drop
          have e := someS h1
          subst e
          exact Qn.thenJ fun a ha => ⟨false, rfl, ha.keep [4] (by kernel_rfl), hI⟩
      · rw [if_neg hb5] at h1
        have hb5 : (seq a0_Name a1_Name) = false := by simpa using hb5
        refine OpsT.keep [2, 3, 17] (S' := [(2, .pointer (some ⟨b1, 0, none⟩)), (3, .pointer (some ⟨b2, 0, none⟩)), (17, .bool false)]) (by (try simp only [hb5]); kernel_rfl) ?_
        refine OpsT.pures (r := []) [13, 14, 15, 16, 17, 18, 19, 20, 21, 22, 23, 24, 25, 26, 27, 28, 29, 30, 31, 32, 33, 34, 35, 36, 37, 38, 39, 40] [4] (S' := [(4, .bool false)]) (by kernel_rfl) ?_
        refine OpsT.done ?_
        have hI := hI.drop
        have hI := hI.drop
        have e := someS h1
        subst e
        exact Qn.thenJ fun a ha => ⟨false, rfl, ha.keep [4] (by kernel_rfl), hI⟩
    · rw [if_neg hb4] at h1
      have hb4 : (a0_ID == a1_ID) = false := by simpa using hb4
      refine OpsT.keep [2, 3, 10] (S' := [(2, .pointer (some ⟨b1, 0, none⟩)), (3, .pointer (some ⟨b2, 0, none⟩)), (10, .bool false)]) (by (try simp only [hb4]); kernel_rfl) ?_
      refine OpsT.pures (r := []) [6, 7, 8, 9, 10, 11, 12, 13, 14, 15, 16, 17, 18, 19, 20, 21, 22, 23, 24, 25, 26, 27, 28, 29, 30, 31, 32, 33, 34, 35, 36, 37, 38, 39, 40] [4] (S' := [(4, .bool false)]) (by kernel_rfl) ?_
      refine OpsT.done ?_
      have hI := hI.drop
      have hI := hI.drop
      have e := someS h1
      subst e
      exact Qn.thenJ fun a ha => ⟨false, rfl, ha.keep [4] (by kernel_rfl), hI⟩
  ·
    rintro a w ⟨x3, rfl, ha, hI⟩
    try dsimp only at h0
    refine CodT.of ?_ ha
    refine CodT.ret ?_
    have e := someS h0
    subst e
    refine Qn.keep [4] (S' := [(4, .bool x3)]) (by kernel_rfl) ?_
    exact post_ret (v := .bool x3) (fun a ha => RunRes.run (vs := [.bool x3]) (.tmp (t := 4) (by kernel_rfl) .nil) ha (by kernel_rfl)) ⟨rfl, hI⟩
set_option maxRecDepth 100000 in
set_option maxHeartbeats 4000000 in
/-- cenotaph/cenotaphlaw08.few -/
theorem c23 (w0 w : World) (Z : Hp) (A : HP) (hI : Inv w0 Z w A) (hT : Tabs Z) (a0_ID : Int) (a0_Name : ByteArray) (a0_Data : ByteArray) (a0_Sealed : Bool) (a0_Until : Int) (A_a0_Holds : Option Addr) (c_a0_Holds : Nat) (a0_Holds : (List ByteArray)) (hr_a0_Holds : RdS Z cS 1 A_a0_Holds c_a0_Holds a0_Holds) (a1 : ApiOp) (r : Bool) (h0 : law08_few a0_ID a0_Name a0_Data a0_Sealed a0_Until a0_Holds a1 = some r) :
    Calls prog 23 #[.agg ((([.int .i64 a0_ID, .string a0_Name, .string a0_Data, .bool a0_Sealed, .int .i64 a0_Until, .slice A_a0_Holds a0_Holds.length c_a0_Holds] : List Value))).toArray, .agg (c_ApiOp a1).toArray] w (fun e w' => e = .returned (.bool r) ∧ Inv w0 Z w' A) := by
  have e4 := calls_intro (R := (fun e w' => e = .returned (.bool r) ∧ Inv w0 Z w' A)) (w := w) (args := [.agg ((([.int .i64 a0_ID, .string a0_Name, .string a0_Data, .bool a0_Sealed, .int .i64 a0_Until, .slice A_a0_Holds a0_Holds.length c_a0_Holds] : List Value))).toArray, .agg (c_ApiOp a1).toArray]) (fn := Go.Proofs.Tryd.f23) 21 Go.Proofs.Tryd.func23 (by rfl) Go.Proofs.Tryd.ntmps23 (by kernel_rfl)
  refine e4 ?_
  clear e4
  unfold law08_few at h0
  refine CodT.seq ?_
  refine CodT.regionL [0, 1, 2] (by kernel_rfl) ?_
  refine OpsT.cons (Does.boxL (d := 2) (T := 24) (v := .agg ((([.int .i64 a0_ID, .string a0_Name, .string a0_Data, .bool a0_Sealed, .int .i64 a0_Until, .slice A_a0_Holds a0_Holds.length c_a0_Holds] : List Value))).toArray) ((([.int .i64 a0_ID, .string a0_Name, .string a0_Data, .bool a0_Sealed, .int .i64 a0_Until, .slice A_a0_Holds a0_Holds.length c_a0_Holds] : List Value))) (by kernel_rfl) hI (by kernel_rfl) ?_)
  intro b1 w hI
  refine OpsT.cons (Does.boxL (d := 3) (T := 43) (v := .agg (c_ApiOp a1).toArray) (c_ApiOp a1) (by kernel_rfl) hI (by kernel_rfl) ?_)
  intro b2 w hI
  refine OpsT.pures (r := []) [2] [2, 3] (S' := [(2, .pointer (some ⟨b1, 0, none⟩)), (3, .pointer (some ⟨b2, 0, none⟩))]) (by kernel_rfl) ?_
  refine OpsT.done ?_
  refine Qn.then ?_
  refine CodT.seq ?_
  refine CodT.regionL [0, 1, 2] (by kernel_rfl) ?_
  refine OpsT.cons (Does.yi (Yl.load (d := 6) (T := 24) (v := .agg ((([.int .i64 a0_ID, .string a0_Name, .string a0_Data, .bool a0_Sealed, .int .i64 a0_Until, .slice A_a0_Holds a0_Holds.length c_a0_Holds] : List Value))).toArray) (by kernel_rfl) (ldBN ty24 (l := (([.int .i64 a0_ID, .string a0_Name, .string a0_Data, .bool a0_Sealed, .int .i64 a0_Until, .slice A_a0_Holds a0_Holds.length c_a0_Holds] : List Value))) (o := 0) (cs := (([.int .i64 a0_ID, .string a0_Name, .string a0_Data, .bool a0_Sealed, .int .i64 a0_Until, .slice A_a0_Holds a0_Holds.length c_a0_Holds] : List Value))) (pick2 _ _ _) (by kernel_rfl) (whole _ _ (by kernel_rfl)))) hI ?_)
  obtain ⟨y4, hc3, h0⟩ := bindS h0
  try dsimp only at h0
  refine OpsT.cons (Does.call (d := some 7) (n := 10) (vs := [.agg ((([.int .i64 a0_ID, .string a0_Name, .string a0_Data, .bool a0_Sealed, .int .i64 a0_Until, .slice A_a0_Holds a0_Holds.length c_a0_Holds] : List Value))).toArray]) (by kernel_rfl) en10 (c10 w0 w _ _ hI hT a0_ID a0_Name a0_Data a0_Sealed a0_Until A_a0_Holds c_a0_Holds a0_Holds hr_a0_Holds _ hc3) ?_)
  rintro e w ⟨rfl, hI⟩
  refine ⟨_, rfl, ?_⟩
  refine OpsT.pures (r := []) [2] [3, 5] (S' := [(3, .pointer (some ⟨b2, 0, none⟩)), (5, .bool y4)]) (by kernel_rfl) ?_
  refine OpsT.done ?_
  refine Qn.then ?_
  obtain ⟨r1, h1, h0⟩ := bindS h0
  refine CodT.meet (fun a w => ∃ (x5 : Bool), x5 = r1 ∧ Fr 21 [(4, .bool x5)] a ∧ Inv w0 Z w A) ?_ ?_
  ·
    refine CodT.regionL [0, 1, 2, 3, 4, 5, 6, 7, 8, 9, 10, 11, 12, 13] (by kernel_rfl) ?_
    refine OpsT.pures (r := [2, 3, 4, 5, 6, 7, 8, 9, 10, 11, 12, 13]) [0, 1] [3, 9] (S' := [(3, .pointer (some ⟨b2, 0, none⟩)), (9, .bool y4)]) (by kernel_rfl) ?_
    by_cases hb6 : y4 = true
    · rw [if_pos hb6] at h1
      refine OpsT.keep [3, 9] (S' := [(3, .pointer (some ⟨b2, 0, none⟩)), (9, .bool true)]) (by (try simp only [hb6]); kernel_rfl) ?_
      refine OpsT.pures (r := [3, 4, 5, 6, 7, 8, 9, 10, 11, 12, 13]) [2] [3, 9, 10] (S' := [(3, .pointer (some ⟨b2, 0, none⟩)), (9, .bool true), (10, .pointer (some ⟨b2, 2, none⟩))]) (by kernel_rfl) ?_
      refine OpsT.cons (Does.yi (Yl.load (d := 11) (T := 9) (v := .string a1.Text) (by kernel_rfl) (ldB ty9 (l := c_ApiOp a1) (o := 2) (v := .string a1.Text) (ent_refl _) (by kernel_rfl))) hI ?_)
      refine OpsT.pures (r := [8, 9, 10, 11, 12, 13]) [4, 5, 6, 7] [3, 15] (S' := [(3, .pointer (some ⟨b2, 0, none⟩)), (15, .bool (decide ((a1.Text.size : Int) ≤ 700)))]) (by kernel_rfl) ?_
      by_cases hb7 : (decide ((a1.Text.size : Int) ≤ 700)) = true
      · rw [if_pos hb7] at h1
        refine OpsT.keep [3, 15] (S' := [(3, .pointer (some ⟨b2, 0, none⟩)), (15, .bool true)]) (by (try simp only [hb7]); kernel_rfl) ?_
        refine OpsT.pures (r := [9, 10, 11, 12, 13]) [8] [15, 16] (S' := [(15, .bool true), (16, .pointer (some ⟨b2, 1, none⟩))]) (by kernel_rfl) ?_
        refine OpsT.cons (Does.yi (Yl.load (d := 17) (T := 9) (v := .string a1.Name) (by kernel_rfl) (ldB ty9 (l := c_ApiOp a1) (o := 1) (v := .string a1.Name) (ent_refl _) (by kernel_rfl))) hI ?_)
        refine OpsT.pures (r := []) [10, 11, 12, 13] [4] (S' := [(4, .bool (decide ((a1.Name.size : Int) ≤ 700)))]) (by kernel_rfl) ?_
        refine OpsT.done ?_
        have hI := hI.drop
        have hI := hI.drop
        have e := someS h1
        subst e
        exact Qn.thenJ fun a ha => ⟨decide ((a1.Name.size : Int) ≤ 700), rfl, ha.keep [4] (by kernel_rfl), hI⟩
      · rw [if_neg hb7] at h1
        have hb7 : (decide ((a1.Text.size : Int) ≤ 700)) = false := by simpa using hb7
        refine OpsT.keep [3, 15] (S' := [(3, .pointer (some ⟨b2, 0, none⟩)), (15, .bool false)]) (by (try simp only [hb7]); kernel_rfl) ?_
        refine OpsT.pures (r := []) [8, 9, 10, 11, 12, 13] [4] (S' := [(4, .bool false)]) (by kernel_rfl) ?_
        refine OpsT.done ?_
        have hI := hI.drop
        have hI := hI.drop
        have e := someS h1
        subst e
        exact Qn.thenJ fun a ha => ⟨false, rfl, ha.keep [4] (by kernel_rfl), hI⟩
    · rw [if_neg hb6] at h1
      have hb6 : y4 = false := by simpa using hb6
      refine OpsT.keep [3, 9] (S' := [(3, .pointer (some ⟨b2, 0, none⟩)), (9, .bool false)]) (by (try simp only [hb6]); kernel_rfl) ?_
      refine OpsT.pures (r := []) [2, 3, 4, 5, 6, 7, 8, 9, 10, 11, 12, 13] [4] (S' := [(4, .bool false)]) (by kernel_rfl) ?_
      refine OpsT.done ?_
      have hI := hI.drop
      have hI := hI.drop
      have e := someS h1
      subst e
      exact Qn.thenJ fun a ha => ⟨false, rfl, ha.keep [4] (by kernel_rfl), hI⟩
  ·
    rintro a w ⟨x5, rfl, ha, hI⟩
    try dsimp only at h0
    refine CodT.of ?_ ha
    refine CodT.ret ?_
    have e := someS h0
    subst e
    refine Qn.keep [4] (S' := [(4, .bool x5)]) (by kernel_rfl) ?_
    exact post_ret (v := .bool x5) (fun a ha => RunRes.run (vs := [.bool x5]) (.tmp (t := 4) (by kernel_rfl) .nil) ha (by kernel_rfl)) ⟨rfl, hI⟩
end Go.Cen
