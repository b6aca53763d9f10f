/- That the machine computes these: walks, printed by a program of ours. -/
import Derived.Test.YthdoklobbcedcacDoorPx
import Derived.Test.YthdoklobbcedcacDoorWx3
set_option linter.unusedVariables false
set_option linter.unusedSimpArgs false
namespace Go.Cen
set_option maxRecDepth 100000
set_option maxHeartbeats 4000000
/-- cenotaph/file.Meta -/
theorem c48 (w0 w : World) (Z : Hp) (A : HP) (hI : Inv w0 Z w A) (hT : Tabs Z) (ud : Int) (ue : ByteArray) (ub : ByteArray) (uf : Bool) (ug : Int) (ua : Option Addr) (uh : Nat) (uc : (List ByteArray)) (ui : RdS Z cS 1 ua uh uc) (r : (Int × ByteArray × ByteArray × Bool × Int × (List ByteArray))) (h0 : file_Meta ud ue ub uf ug uc = some r) :
  Calls prog 48 #[.agg ([iv ud, .string ue, .string ub, .bool uf, iv ug, .slice ua uc.length uh] : LV).toArray] w (fun e w' => ∃ (A1 : Option Addr) (c1 : Nat) (Z' : Hp), Z.le Z' ∧ e = .returned (.agg ([iv r.1, .string r.2.1, .string r.2.2.1, .bool r.2.2.2.1, iv r.2.2.2.2.1, .slice A1 r.2.2.2.2.2.length c1] : LV).toArray) ∧ RdS Z' cS 1 A1 c1 r.2.2.2.2.2 ∧ Inv w0 Z' w' A) := by
 have e4 := calls_intro (R := (fun e w' => ∃ (A1 : Option Addr) (c1 : Nat) (Z' : Hp), Z.le Z' ∧ e = .returned (.agg ([iv r.1, .string r.2.1, .string r.2.2.1, .bool r.2.2.2.1, iv r.2.2.2.2.1, .slice A1 r.2.2.2.2.2.length c1] : LV).toArray) ∧ RdS Z' cS 1 A1 c1 r.2.2.2.2.2 ∧ Inv w0 Z' w' A)) (w := w) (args := [.agg ([iv ud, .string ue, .string ub, .bool uf, iv ug, .slice ua uc.length uh] : LV).toArray]) (fn := Go.Proofs.Tryd.f48) 5 Go.Proofs.Tryd.func48 (by rfl) Go.Proofs.Tryd.ntmps48 (by kernel_rfl)
 refine e4 ?_
 clear e4
 unfold file_Meta at h0
 refine cQ ?_
 refine cR [0, 1] (by kernel_rfl) ?_
 refine oC (Does.boxL (d := 1) (T := 27) (v := .agg ([iv ud, .string ue, .string ub, .bool uf, iv ug, .slice ua uc.length uh] : LV).toArray) ([iv ud, .string ue, .string ub, .bool uf, iv ug, .slice ua uc.length uh] : LV) (by kernel_rfl) hI (by kernel_rfl) ?_)
 intro b1 w hI
 refine oC (Does.allocL (d := 2) (T := 27) ((([iv 0, .string (⟨#[]⟩ : ByteArray), .string (⟨#[]⟩ : ByteArray), .bool false, iv 0, .slice none 0 0] : LV))) (by kernel_rfl) ty27 hI (by kernel_rfl) ?_)
 intro b2 w hI
 refine oD ?_
 refine qT ?_
 refine cQ ?_
 refine cR [0, 1] (by kernel_rfl) ?_
 refine oP (r := [1]) [0] (S' := [(1, pb b1), (2, pb b2), (3, .pointer (some ⟨b1, 2, none⟩))]) (by kernel_rfl) ?_
 have hI := hI.mono (pick2 _ _ _)
 refine oC (dS (T := 9) (b := b1) (o := 2) (v := .string (⟨#[]⟩ : ByteArray)) (l := ([iv ud, .string ue, .string ub, .bool uf, iv ug, .slice ua uc.length uh] : LV)) (vs := ([.string (⟨#[]⟩ : ByteArray)] : LV)) (L' := (([iv ud, .string ue, .string (⟨#[]⟩ : ByteArray), .bool uf, iv ug, .slice ua uc.length uh] : LV))) (by kernel_rfl) ty9 hI (by kernel_rfl) (by kernel_rfl) (by kernel_rfl) (by kernel_rfl) (by kernel_rfl) ?_)
 intro w hI
 refine oD ?_
 refine qT ?_
 refine cQ ?_
 refine cR [0, 1] (by kernel_rfl) ?_
 refine oC (Does.yi (Yl.load (d := 4) (T := 27) (v := .agg ((([iv ud, .string ue, .string (⟨#[]⟩ : ByteArray), .bool uf, iv ug, .slice ua uc.length uh] : LV))).toArray) (by kernel_rfl) (ldBN ty27 (l := (([iv ud, .string ue, .string (⟨#[]⟩ : ByteArray), .bool uf, iv ug, .slice ua uc.length uh] : LV))) (o := 0) (cs := (([iv ud, .string ue, .string (⟨#[]⟩ : ByteArray), .bool uf, iv ug, .slice ua uc.length uh] : LV))) (ent_refl _) (by kernel_rfl) (whole _ _ (by kernel_rfl)))) hI ?_)
 have hI := hI.mono (pick2 _ _ _)
 refine oC (dS (T := 27) (b := b2) (o := 0) (v := .agg ((([iv ud, .string ue, .string (⟨#[]⟩ : ByteArray), .bool uf, iv ug, .slice ua uc.length uh] : LV))).toArray) (l := (([iv 0, .string (⟨#[]⟩ : ByteArray), .string (⟨#[]⟩ : ByteArray), .bool false, iv 0, .slice none 0 0] : LV))) (vs := (([iv ud, .string ue, .string (⟨#[]⟩ : ByteArray), .bool uf, iv ug, .slice ua uc.length uh] : LV))) (L' := (([iv ud, .string ue, .string (⟨#[]⟩ : ByteArray), .bool uf, iv ug, .slice ua uc.length uh] : LV))) (by kernel_rfl) ty27 hI (by kernel_rfl) (by kernel_rfl) (by kernel_rfl) (by kernel_rfl) (by kernel_rfl) ?_)
 intro w hI
 refine oD ?_
 refine qT ?_
 refine CodT.ret ?_
 have hL3 := (ldBN ty27 (l := (([iv ud, .string ue, .string (⟨#[]⟩ : ByteArray), .bool uf, iv ug, .slice ua uc.length uh] : LV))) (o := 0) (cs := (([iv ud, .string ue, .string (⟨#[]⟩ : ByteArray), .bool uf, iv ug, .slice ua uc.length uh] : LV))) (ent_refl _) (by kernel_rfl) (whole _ _ (by kernel_rfl))) w hI
 have hI := hI.drop
 have hI := hI.drop
 have e := someS h0
 subst e
 refine qK [2] (S' := [(2, pb b2)]) (by kernel_rfl) ?_
 exact post_ret (v := .agg ((([iv ud, .string ue, .string (⟨#[]⟩ : ByteArray), .bool uf, iv ug, .slice ua uc.length uh] : LV))).toArray) (fun a ha => RunRes.run (vs := [.agg ((([iv ud, .string ue, .string (⟨#[]⟩ : ByteArray), .bool uf, iv ug, .slice ua uc.length uh] : LV))).toArray]) (.cell (t := 2) (T := 27) (ad := ⟨b2, 0, none⟩) (by kernel_rfl) hL3 .nil) ha (by kernel_rfl)) ⟨ua, uh, Z, Hp.le_refl _, rfl, ui, hI⟩
/-- cenotaph/cenotaphlaw08.works -/
theorem c26 (w0 w : World) (Z : Hp) (A : HP) (hI : Inv w0 Z w A) (hT : Tabs Z)  (r : Bool) (h0 : law08_works = some r) :
  Calls prog 26 #[] w (fun e w' => e = .returned (.bool r) ∧ Inv w0 Z w' A) := by
 have e4 := calls_intro (R := (fun e w' => e = .returned (.bool r) ∧ Inv w0 Z w' A)) (w := w) (args := []) (fn := Go.Proofs.Tryd.f26) 84 Go.Proofs.Tryd.func26 (by rfl) Go.Proofs.Tryd.ntmps26 (by kernel_rfl)
 refine e4 ?_
 clear e4
 unfold law08_works at h0
 refine cQ ?_
 refine cR [0] (by kernel_rfl) ?_
 refine oP (r := []) [0] (S' := []) (by kernel_rfl) ?_
 refine oD ?_
 refine qT ?_
 refine cQ ?_
 refine cR [0, 1, 2, 3, 4, 5, 6] (by kernel_rfl) ?_
 obtain ⟨⟨y2, y3, y4, y5, y6, y7, y10⟩, hc1, h0⟩ := bindS h0
 try dsimp only at h0
 refine oC (Does.call (d := some 10) (n := 44) (vs := [iv 1, .string (⟨#[120]⟩ : ByteArray)]) (by kernel_rfl) en44 (c44 w0 w _ _ hI hT 1 (⟨#[120]⟩ : ByteArray) _ hc1) ?_)
 rintro e w ⟨A8, cp9, rfl, hI⟩
 refine ⟨_, rfl, ?_⟩
 refine oP (r := [4, 5, 6]) [1, 2, 3] (S' := [(11, .agg ([iv y2, .string y3, .string y4, .bool y5, iv y6, .slice A8 y7.length cp9] : LV).toArray), (12, iv y10)]) (by kernel_rfl) ?_
 refine oC (Does.allocL (d := 1) (T := 27) ((([iv 0, .string (⟨#[]⟩ : ByteArray), .string (⟨#[]⟩ : ByteArray), .bool false, iv 0, .slice none 0 0] : LV))) (by kernel_rfl) ty27 hI (by kernel_rfl) ?_)
 intro b11 w hI
 refine oC (dS (T := 27) (b := b11) (o := 0) (v := .agg ([iv y2, .string y3, .string y4, .bool y5, iv y6, .slice A8 y7.length cp9] : LV).toArray) (l := (([iv 0, .string (⟨#[]⟩ : ByteArray), .string (⟨#[]⟩ : ByteArray), .bool false, iv 0, .slice none 0 0] : LV))) (vs := ([iv y2, .string y3, .string y4, .bool y5, iv y6, .slice A8 y7.length cp9] : LV)) (L' := ([iv y2, .string y3, .string y4, .bool y5, iv y6, .slice A8 y7.length cp9] : LV)) (by kernel_rfl) ty27 hI (by kernel_rfl) (by kernel_rfl) (by kernel_rfl) (by kernel_rfl) (by kernel_rfl) ?_)
 intro w hI
 refine oP (r := []) [6] (S' := [(1, pb b11), (2, iv y10)]) (by kernel_rfl) ?_
 refine oD ?_
 refine qT ?_
 refine cQ ?_
 refine cR [0, 1, 2, 3, 4, 5, 6] (by kernel_rfl) ?_
 refine oC (Does.yi (Yl.load (d := 14) (T := 27) (v := .agg ([iv y2, .string y3, .string y4, .bool y5, iv y6, .slice A8 y7.length cp9] : LV).toArray) (by kernel_rfl) (ldBN ty27 (l := ([iv y2, .string y3, .string y4, .bool y5, iv y6, .slice A8 y7.length cp9] : LV)) (o := 0) (cs := ([iv y2, .string y3, .string y4, .bool y5, iv y6, .slice A8 y7.length cp9] : LV)) (ent_refl _) (by kernel_rfl) (whole _ _ (by kernel_rfl)))) hI ?_)
 have hI := hI.mono (pick2 _ _ _)
 obtain ⟨Z12, hle13, hr14, hI⟩ := ownS_freeze hI
 obtain ⟨⟨y16, y17, y18, y19, y20, y21, y25⟩, hc15, h0⟩ := bindS h0
 try dsimp only at h0
 refine oC (Does.call (d := some 15) (n := 30) (vs := [.agg ([iv y2, .string y3, .string y4, .bool y5, iv y6, .slice A8 y7.length cp9] : LV).toArray, .string (⟨#[97, 98]⟩ : ByteArray)]) (by kernel_rfl) en30 (c30 w0 w _ _ hI (hT.mono hle13) y2 y3 y4 y5 y6 A8 cp9 y7 hr14 (⟨#[97, 98]⟩ : ByteArray) _ hc15) ?_)
 rintro e w ⟨A22, cp23, Z26, hle27, rfl, hr24, hI⟩
 refine ⟨_, rfl, ?_⟩
 refine oP (r := [5, 6]) [2, 3, 4] (S' := [(1, pb b11), (2, iv y10), (16, .agg ([iv y16, .string y17, .string y18, .bool y19, iv y20, .slice A22 y21.length cp23] : LV).toArray), (17, iv y25)]) (by kernel_rfl) ?_
 refine oC (dS (T := 27) (b := b11) (o := 0) (v := .agg ([iv y16, .string y17, .string y18, .bool y19, iv y20, .slice A22 y21.length cp23] : LV).toArray) (l := ([iv y2, .string y3, .string y4, .bool y5, iv y6, .slice A8 y7.length cp9] : LV)) (vs := ([iv y16, .string y17, .string y18, .bool y19, iv y20, .slice A22 y21.length cp23] : LV)) (L' := ([iv y16, .string y17, .string y18, .bool y19, iv y20, .slice A22 y21.length cp23] : LV)) (by kernel_rfl) ty27 hI (by kernel_rfl) (by kernel_rfl) (by kernel_rfl) (by kernel_rfl) (by kernel_rfl) ?_)
 intro w hI
 refine oP (r := []) [6] (S' := [(1, pb b11), (2, iv y10), (3, iv y25)]) (by kernel_rfl) ?_
 refine oD ?_
 refine qT ?_
 refine cQ ?_
 refine cR [0, 1, 2, 3, 4, 5, 6, 7, 8, 9, 10, 11] (by kernel_rfl) ?_
 refine oC (Does.yi (Yl.load (d := 19) (T := 27) (v := .agg ([iv y16, .string y17, .string y18, .bool y19, iv y20, .slice A22 y21.length cp23] : LV).toArray) (by kernel_rfl) (ldBN ty27 (l := ([iv y16, .string y17, .string y18, .bool y19, iv y20, .slice A22 y21.length cp23] : LV)) (o := 0) (cs := ([iv y16, .string y17, .string y18, .bool y19, iv y20, .slice A22 y21.length cp23] : LV)) (ent_refl _) (by kernel_rfl) (whole _ _ (by kernel_rfl)))) hI ?_)
 refine oP (r := [2, 3, 4, 5, 6, 7, 8, 9, 10, 11]) [1] (S' := [(2, iv y10), (3, iv y25), (19, .agg ([iv y16, .string y17, .string y18, .bool y19, iv y20, .slice A22 y21.length cp23] : LV).toArray), (20, .agg (c_ApiOp (ApiOp.mk 1 (⟨#[]⟩ : ByteArray) (⟨#[99]⟩ : ByteArray) 0 0 0)).toArray)]) (by kernel_rfl) ?_
 obtain ⟨⟨y29, y30, y31, y32, y33, y34, y38, y40⟩, hc28, h0⟩ := bindS h0
 try dsimp only at h0
 refine oC (Does.call (d := some 21) (n := 28) (vs := [.agg ([iv y16, .string y17, .string y18, .bool y19, iv y20, .slice A22 y21.length cp23] : LV).toArray, .agg (c_ApiOp (ApiOp.mk 1 (⟨#[]⟩ : ByteArray) (⟨#[99]⟩ : ByteArray) 0 0 0)).toArray, iv 0]) (by kernel_rfl) en28 (c28 w0 w _ _ hI (hT.mono (Hp.le_trans hle13 hle27)) y16 y17 y18 y19 y20 A22 cp23 y21 hr24 (ApiOp.mk 1 (⟨#[]⟩ : ByteArray) (⟨#[99]⟩ : ByteArray) 0 0 0) 0 _ hc28) ?_)
 rintro e w ⟨A35, cp36, Z41, hle42, rfl, hr37, hl39, hI⟩
 refine ⟨_, rfl, ?_⟩
 refine oP (r := [7, 8, 9, 10, 11]) [3, 4, 5, 6] (S' := [(2, iv y10), (3, iv y25), (22, .agg ([iv y29, .string y30, .string y31, .bool y32, iv y33, .slice A35 y34.length cp36] : LV).toArray), (23, .agg (c_ApiEvent y38).toArray), (24, iv y40)]) (by kernel_rfl) ?_
 refine oC (Does.allocL (d := 4) (T := 27) ((([iv 0, .string (⟨#[]⟩ : ByteArray), .string (⟨#[]⟩ : ByteArray), .bool false, iv 0, .slice none 0 0] : LV))) (by kernel_rfl) ty27 hI (by kernel_rfl) ?_)
 intro b43 w hI
 refine oC (Does.allocL (d := 5) (T := 53) (c_ApiEvent (ApiEvent.mk 0 0 (⟨#[]⟩ : ByteArray) 0 0 (List.replicate 32 (0 : Int)))) (by kernel_rfl) ty53 hI (by kernel_rfl) ?_)
 intro b44 w hI
 have hI := hI.mono (pick2 _ _ _)
 refine oC (dS (T := 27) (b := b43) (o := 0) (v := .agg ([iv y29, .string y30, .string y31, .bool y32, iv y33, .slice A35 y34.length cp36] : LV).toArray) (l := (([iv 0, .string (⟨#[]⟩ : ByteArray), .string (⟨#[]⟩ : ByteArray), .bool false, iv 0, .slice none 0 0] : LV))) (vs := ([iv y29, .string y30, .string y31, .bool y32, iv y33, .slice A35 y34.length cp36] : LV)) (L' := ([iv y29, .string y30, .string y31, .bool y32, iv y33, .slice A35 y34.length cp36] : LV)) (by kernel_rfl) ty27 hI (by kernel_rfl) (by kernel_rfl) (by kernel_rfl) (by kernel_rfl) (by kernel_rfl) ?_)
 intro w hI
 have hI := hI.mono (pick2 _ _ _)
 refine oC (dS (T := 53) (b := b44) (o := 0) (v := .agg (c_ApiEvent y38).toArray) (l := c_ApiEvent (ApiEvent.mk 0 0 (⟨#[]⟩ : ByteArray) 0 0 (List.replicate 32 (0 : Int)))) (vs := c_ApiEvent y38) (L' := c_ApiEvent y38) (by kernel_rfl) ty53 hI (by kernel_rfl) (len_ApiEvent _ hl39) (by rw [(len_ApiEvent _ (by kernel_rfl))]; kernel_rfl) (ones_app _ _ (by kernel_rfl) (ones_cA _)) (lset_all _ _ (Eq.trans (len_ApiEvent _ hl39) (Eq.symm (len_ApiEvent _ (by kernel_rfl))))) ?_)
 intro w hI
 refine oP (r := []) [11] (S' := [(2, iv y10), (3, iv y25), (4, pb b43), (5, pb b44), (6, iv y40)]) (by kernel_rfl) ?_
 refine oD ?_
 refine qT ?_
 refine cQ ?_
 refine cR [0, 1, 2, 3, 4, 5, 6] (by kernel_rfl) ?_
 refine oC (Does.yi (Yl.load (d := 26) (T := 27) (v := .agg ([iv y29, .string y30, .string y31, .bool y32, iv y33, .slice A35 y34.length cp36] : LV).toArray) (by kernel_rfl) (ldBN ty27 (l := ([iv y29, .string y30, .string y31, .bool y32, iv y33, .slice A35 y34.length cp36] : LV)) (o := 0) (cs := ([iv y29, .string y30, .string y31, .bool y32, iv y33, .slice A35 y34.length cp36] : LV)) (pick2 _ _ _) (by kernel_rfl) (whole _ _ (by kernel_rfl)))) hI ?_)
 obtain ⟨⟨y46, y47⟩, hc45, h0⟩ := bindS h0
 try dsimp only at h0
 refine oC (Does.call (d := some 27) (n := 45) (vs := [.agg ([iv y29, .string y30, .string y31, .bool y32, iv y33, .slice A35 y34.length cp36] : LV).toArray, iv 1, iv 3]) (by kernel_rfl) en45 (c45 w0 w _ _ hI (hT.mono (Hp.le_trans (Hp.le_trans hle13 hle27) hle42)) y29 y30 y31 y32 y33 A35 cp36 y34 hr37 1 3 _ hc45) ?_)
 rintro e w ⟨rfl, hI⟩
 refine ⟨_, rfl, ?_⟩
 refine oP (r := []) [2, 3, 4, 5, 6] (S' := [(2, iv y10), (3, iv y25), (4, pb b43), (5, pb b44), (6, iv y40), (7, .string y46), (8, iv y47)]) (by kernel_rfl) ?_
 refine oD ?_
 refine qT ?_
 obtain ⟨r1, h1, h0⟩ := bindS h0
 refine CodT.meet (fun a w => ∃ (x50 : Bool) (Z48 : Hp), x50 = r1 ∧ Fr 84 [(0, .bool x50)] a ∧ Inv w0 Z48 w A ∧ Z41.le Z48) ?_ ?_
 ·
  refine cR [0, 1, 2, 3, 4, 5, 6, 7, 8, 9, 10, 11, 12, 13, 14, 15, 16, 17, 18, 19, 20, 21, 22, 23, 24, 25, 26, 27, 28, 29, 30, 31, 32, 33, 34, 35, 36, 37, 38, 39, 40, 41, 42, 43, 44, 45, 46, 47, 48, 49, 50, 51, 52, 53, 54] (by kernel_rfl) ?_
  refine oP (r := [3, 4, 5, 6, 7, 8, 9, 10, 11, 12, 13, 14, 15, 16, 17, 18, 19, 20, 21, 22, 23, 24, 25, 26, 27, 28, 29, 30, 31, 32, 33, 34, 35, 36, 37, 38, 39, 40, 41, 42, 43, 44, 45, 46, 47, 48, 49, 50, 51, 52, 53, 54]) [0, 1, 2] (S' := [(3, iv y25), (4, pb b43), (5, pb b44), (6, iv y40), (7, .string y46), (8, iv y47), (32, .bool (y10 == 0))]) (by kernel_rfl) ?_
  by_cases hb51 : (y10 == 0) = true
  ·
   rw [if_pos hb51] at h1
   refine oK [3, 4, 5, 6, 7, 8, 32] (S' := [(3, iv y25), (4, pb b43), (5, pb b44), (6, iv y40), (7, .string y46), (8, iv y47), (32, .bool true)]) (by (try simp only [hb51]); kernel_rfl) ?_
   refine oP (r := [7, 8, 9, 10, 11, 12, 13, 14, 15, 16, 17, 18, 19, 20, 21, 22, 23, 24, 25, 26, 27, 28, 29, 30, 31, 32, 33, 34, 35, 36, 37, 38, 39, 40, 41, 42, 43, 44, 45, 46, 47, 48, 49, 50, 51, 52, 53, 54]) [3, 4, 5, 6] (S' := [(4, pb b43), (5, pb b44), (6, iv y40), (7, .string y46), (8, iv y47), (36, .bool (y25 == 0))]) (by kernel_rfl) ?_
   by_cases hb52 : (y25 == 0) = true
   ·
    rw [if_pos hb52] at h1
    refine oK [4, 5, 6, 7, 8, 36] (S' := [(4, pb b43), (5, pb b44), (6, iv y40), (7, .string y46), (8, iv y47), (36, .bool true)]) (by (try simp only [hb52]); kernel_rfl) ?_
    refine oP (r := [11, 12, 13, 14, 15, 16, 17, 18, 19, 20, 21, 22, 23, 24, 25, 26, 27, 28, 29, 30, 31, 32, 33, 34, 35, 36, 37, 38, 39, 40, 41, 42, 43, 44, 45, 46, 47, 48, 49, 50, 51, 52, 53, 54]) [7, 8, 9, 10] (S' := [(4, pb b43), (5, pb b44), (7, .string y46), (8, iv y47), (40, .bool (y40 == 0))]) (by kernel_rfl) ?_
    by_cases hb53 : (y40 == 0) = true
    ·
     rw [if_pos hb53] at h1
     refine oK [4, 5, 7, 8, 40] (S' := [(4, pb b43), (5, pb b44), (7, .string y46), (8, iv y47), (40, .bool true)]) (by (try simp only [hb53]); kernel_rfl) ?_
     refine oP (r := [12, 13, 14, 15, 16, 17, 18, 19, 20, 21, 22, 23, 24, 25, 26, 27, 28, 29, 30, 31, 32, 33, 34, 35, 36, 37, 38, 39, 40, 41, 42, 43, 44, 45, 46, 47, 48, 49, 50, 51, 52, 53, 54]) [11] (S' := [(4, pb b43), (5, pb b44), (7, .string y46), (8, iv y47), (40, .bool true), (41, .pointer (some ⟨b43, 2, none⟩))]) (by kernel_rfl) ?_
     refine oC (Does.yi (Yl.load (d := 42) (T := 9) (v := .string y31) (by kernel_rfl) (ldB ty9 (l := ([iv y29, .string y30, .string y31, .bool y32, iv y33, .slice A35 y34.length cp36] : LV)) (o := 2) (v := .string y31) (pick2 _ _ _) (by kernel_rfl))) hI ?_)
     refine oP (r := [16, 17, 18, 19, 20, 21, 22, 23, 24, 25, 26, 27, 28, 29, 30, 31, 32, 33, 34, 35, 36, 37, 38, 39, 40, 41, 42, 43, 44, 45, 46, 47, 48, 49, 50, 51, 52, 53, 54]) [13, 14, 15] (S' := [(4, pb b43), (5, pb b44), (7, .string y46), (8, iv y47), (45, .bool (seq y31 (⟨#[97, 98, 99]⟩ : ByteArray)))]) (by kernel_rfl) ?_
     by_cases hb54 : (seq y31 (⟨#[97, 98, 99]⟩ : ByteArray)) = true
     ·
      rw [if_pos hb54] at h1
      refine oK [4, 5, 7, 8, 45] (S' := [(4, pb b43), (5, pb b44), (7, .string y46), (8, iv y47), (45, .bool true)]) (by (try simp only [hb54]); kernel_rfl) ?_
      refine oC (Does.yi (Yl.load (d := 46) (T := 53) (v := .agg (c_ApiEvent y38).toArray) (by kernel_rfl) (ldBN ty53 (l := c_ApiEvent y38) (o := 0) (cs := c_ApiEvent y38) (ent_refl _) (len_ApiEvent _ hl39) (whole _ _ (len_ApiEvent _ hl39)))) hI ?_)
      refine oP (r := [18, 19, 20, 21, 22, 23, 24, 25, 26, 27, 28, 29, 30, 31, 32, 33, 34, 35, 36, 37, 38, 39, 40, 41, 42, 43, 44, 45, 46, 47, 48, 49, 50, 51, 52, 53, 54]) [17] (S' := [(4, pb b43), (7, .string y46), (8, iv y47), (45, .bool true), (46, .agg (c_ApiEvent y38).toArray), (47, .agg (c_ApiEvent (ApiEvent.mk 1 1 (⟨#[]⟩ : ByteArray) 0 1 (List.replicate 32 (0 : Int)))).toArray)]) (by kernel_rfl) ?_
      refine oC (Does.yi (Yl.eqlS (d := 48) (T := 53) (xs := ([iv y38.Kind, iv y38.ID, .string y38.Name, iv y38.Time, iv y38.Len] : LV) ++ (cA (Value.int .u8) y38.Sum)) (ys := ([iv 1, iv 1, .string (⟨#[]⟩ : ByteArray), iv 0, iv 1] : LV) ++ (cA (Value.int .u8) (List.replicate 32 (0 : Int)))) (r := eq_ApiEvent y38 (ApiEvent.mk 1 1 (⟨#[]⟩ : ByteArray) 0 1 (List.replicate 32 (0 : Int)))) (by kernel_rfl) Go.Proofs.Tryd.underlying53 (by kernel_rfl) (by kernel_rfl) (.cons rfl (part1 (v := iv y38.Kind) ty46 (by kernel_rfl)) (part1 (v := iv 1) ty46 (by kernel_rfl)) (eqI Go.Proofs.Tryd.underlying46) (.cons rfl (part1 (v := iv y38.ID) ty3 (by kernel_rfl)) (part1 (v := iv 1) ty3 (by kernel_rfl)) (eqI Go.Proofs.Tryd.underlying3) (.cons rfl (part1 (v := .string y38.Name) ty9 (by kernel_rfl)) (part1 (v := .string (⟨#[]⟩ : ByteArray)) ty9 (by kernel_rfl)) (eqS Go.Proofs.Tryd.underlying9) (.cons rfl (part1 (v := iv y38.Time) ty3 (by kernel_rfl)) (part1 (v := iv 0) ty3 (by kernel_rfl)) (eqI Go.Proofs.Tryd.underlying3) (.cons rfl (part1 (v := iv y38.Len) ty3 (by kernel_rfl)) (part1 (v := iv 1) ty3 (by kernel_rfl)) (eqI Go.Proofs.Tryd.underlying3) (.cons rfl (partN ty51 (tail_take _ _ _ _ _ (by kernel_rfl) hl39)) (partN ty51 (tail_take _ _ _ _ _ (by kernel_rfl) (by kernel_rfl))) (eqAr Go.Proofs.Tryd.underlying51 Go.Proofs.Tryd.underlying5 ty5 hl39 (by kernel_rfl)) .nil))))))) hI ?_)
      refine oP (r := [21, 22, 23, 24, 25, 26, 27, 28, 29, 30, 31, 32, 33, 34, 35, 36, 37, 38, 39, 40, 41, 42, 43, 44, 45, 46, 47, 48, 49, 50, 51, 52, 53, 54]) [19, 20] (S' := [(4, pb b43), (7, .string y46), (8, iv y47), (50, .bool (eq_ApiEvent y38 (ApiEvent.mk 1 1 (⟨#[]⟩ : ByteArray) 0 1 (List.replicate 32 (0 : Int)))))]) (by kernel_rfl) ?_
      by_cases hb55 : (eq_ApiEvent y38 (ApiEvent.mk 1 1 (⟨#[]⟩ : ByteArray) 0 1 (List.replicate 32 (0 : Int)))) = true
      ·
       rw [if_pos hb55] at h1
       refine oK [4, 7, 8, 50] (S' := [(4, pb b43), (7, .string y46), (8, iv y47), (50, .bool true)]) (by (try simp only [hb55]); kernel_rfl) ?_
       refine oP (r := [25, 26, 27, 28, 29, 30, 31, 32, 33, 34, 35, 36, 37, 38, 39, 40, 41, 42, 43, 44, 45, 46, 47, 48, 49, 50, 51, 52, 53, 54]) [21, 22, 23, 24] (S' := [(4, pb b43), (8, iv y47), (54, .bool (seq y46 (⟨#[98, 99]⟩ : ByteArray)))]) (by kernel_rfl) ?_
       by_cases hb56 : (seq y46 (⟨#[98, 99]⟩ : ByteArray)) = true
       ·
        rw [if_pos hb56] at h1
        refine oK [4, 8, 54] (S' := [(4, pb b43), (8, iv y47), (54, .bool true)]) (by (try simp only [hb56]); kernel_rfl) ?_
        refine oP (r := [29, 30, 31, 32, 33, 34, 35, 36, 37, 38, 39, 40, 41, 42, 43, 44, 45, 46, 47, 48, 49, 50, 51, 52, 53, 54]) [25, 26, 27, 28] (S' := [(4, pb b43), (58, .bool (y47 == 0))]) (by kernel_rfl) ?_
        by_cases hb57 : (y47 == 0) = true
        ·
         rw [if_pos hb57] at h1
         refine oK [4, 58] (S' := [(4, pb b43), (58, .bool true)]) (by (try simp only [hb57]); kernel_rfl) ?_
         refine oC (Does.yi (Yl.load (d := 59) (T := 27) (v := .agg ([iv y29, .string y30, .string y31, .bool y32, iv y33, .slice A35 y34.length cp36] : LV).toArray) (by kernel_rfl) (ldBN ty27 (l := ([iv y29, .string y30, .string y31, .bool y32, iv y33, .slice A35 y34.length cp36] : LV)) (o := 0) (cs := ([iv y29, .string y30, .string y31, .bool y32, iv y33, .slice A35 y34.length cp36] : LV)) (pick2 _ _ _) (by kernel_rfl) (whole _ _ (by kernel_rfl)))) hI ?_)
         obtain ⟨y59, hc58, h1⟩ := bindS h1
         try dsimp only at h1
         refine oC (Does.call (d := some 60) (n := 46) (vs := [.agg ([iv y29, .string y30, .string y31, .bool y32, iv y33, .slice A35 y34.length cp36] : LV).toArray]) (by kernel_rfl) en46 (c46 w0 w _ _ hI (hT.mono (Hp.le_trans (Hp.le_trans hle13 hle27) hle42)) y29 y30 y31 y32 y33 A35 cp36 y34 hr37 _ hc58) ?_)
         rintro e w ⟨rfl, hI⟩
         refine ⟨_, rfl, ?_⟩
         refine oP (r := [33, 34, 35, 36, 37, 38, 39, 40, 41, 42, 43, 44, 45, 46, 47, 48, 49, 50, 51, 52, 53, 54]) [31, 32] (S' := [(4, pb b43), (62, .bool y59)]) (by kernel_rfl) ?_
         by_cases hb60 : y59 = true
         ·
          rw [if_pos hb60] at h1
          refine oK [4, 62] (S' := [(4, pb b43), (62, .bool true)]) (by (try simp only [hb60]); kernel_rfl) ?_
          refine oC (Does.yi (Yl.load (d := 63) (T := 27) (v := .agg ([iv y29, .string y30, .string y31, .bool y32, iv y33, .slice A35 y34.length cp36] : LV).toArray) (by kernel_rfl) (ldBN ty27 (l := ([iv y29, .string y30, .string y31, .bool y32, iv y33, .slice A35 y34.length cp36] : LV)) (o := 0) (cs := ([iv y29, .string y30, .string y31, .bool y32, iv y33, .slice A35 y34.length cp36] : LV)) (pick2 _ _ _) (by kernel_rfl) (whole _ _ (by kernel_rfl)))) hI ?_)
          refine oC (Does.yi (Yl.load (d := 64) (T := 27) (v := .agg ([iv y29, .string y30, .string y31, .bool y32, iv y33, .slice A35 y34.length cp36] : LV).toArray) (by kernel_rfl) (ldBN ty27 (l := ([iv y29, .string y30, .string y31, .bool y32, iv y33, .slice A35 y34.length cp36] : LV)) (o := 0) (cs := ([iv y29, .string y30, .string y31, .bool y32, iv y33, .slice A35 y34.length cp36] : LV)) (pick2 _ _ _) (by kernel_rfl) (whole _ _ (by kernel_rfl)))) hI ?_)
          obtain ⟨y62, hc61, h1⟩ := bindS h1
          try dsimp only at h1
          refine oC (Does.call (d := some 65) (n := 47) (vs := [.agg ([iv y29, .string y30, .string y31, .bool y32, iv y33, .slice A35 y34.length cp36] : LV).toArray, .agg ([iv y29, .string y30, .string y31, .bool y32, iv y33, .slice A35 y34.length cp36] : LV).toArray]) (by kernel_rfl) en47 (c47 w0 w _ _ hI (hT.mono (Hp.le_trans (Hp.le_trans hle13 hle27) hle42)) y29 y30 y31 y32 y33 A35 cp36 y34 hr37 y29 y30 y31 y32 y33 A35 cp36 y34 hr37 _ hc61) ?_)
          rintro e w ⟨rfl, hI⟩
          refine ⟨_, rfl, ?_⟩
          refine oP (r := [38, 39, 40, 41, 42, 43, 44, 45, 46, 47, 48, 49, 50, 51, 52, 53, 54]) [36, 37] (S' := [(4, pb b43), (67, .bool y62)]) (by kernel_rfl) ?_
          by_cases hb63 : y62 = true
          ·
           rw [if_pos hb63] at h1
           refine oK [4, 67] (S' := [(4, pb b43), (67, .bool true)]) (by (try simp only [hb63]); kernel_rfl) ?_
           refine oC (Does.yi (Yl.load (d := 68) (T := 27) (v := .agg ([iv y29, .string y30, .string y31, .bool y32, iv y33, .slice A35 y34.length cp36] : LV).toArray) (by kernel_rfl) (ldBN ty27 (l := ([iv y29, .string y30, .string y31, .bool y32, iv y33, .slice A35 y34.length cp36] : LV)) (o := 0) (cs := ([iv y29, .string y30, .string y31, .bool y32, iv y33, .slice A35 y34.length cp36] : LV)) (pick2 _ _ _) (by kernel_rfl) (whole _ _ (by kernel_rfl)))) hI ?_)
           obtain ⟨⟨y65, y66, y67, y68, y69, y70⟩, hc64, h1⟩ := bindS h1
           try dsimp only at h1
           refine oC (Does.call (d := some 69) (n := 48) (vs := [.agg ([iv y29, .string y30, .string y31, .bool y32, iv y33, .slice A35 y34.length cp36] : LV).toArray]) (by kernel_rfl) en48 (c48 w0 w _ _ hI (hT.mono (Hp.le_trans (Hp.le_trans hle13 hle27) hle42)) y29 y30 y31 y32 y33 A35 cp36 y34 hr37 _ hc64) ?_)
           rintro e w ⟨A71, cp72, Z74, hle75, rfl, hr73, hI⟩
           refine ⟨_, rfl, ?_⟩
           refine oP (r := [44, 45, 46, 47, 48, 49, 50, 51, 52, 53, 54]) [40, 41, 42, 43] (S' := [(4, pb b43), (73, .bool (seq y67 (⟨#[]⟩ : ByteArray)))]) (by kernel_rfl) ?_
           by_cases hb76 : (seq y67 (⟨#[]⟩ : ByteArray)) = true
           ·
            rw [if_pos hb76] at h1
            refine oK [4, 73] (S' := [(4, pb b43), (73, .bool true)]) (by (try simp only [hb76]); kernel_rfl) ?_
            refine oC (Does.yi (Yl.load (d := 74) (T := 27) (v := .agg ([iv y29, .string y30, .string y31, .bool y32, iv y33, .slice A35 y34.length cp36] : LV).toArray) (by kernel_rfl) (ldBN ty27 (l := ([iv y29, .string y30, .string y31, .bool y32, iv y33, .slice A35 y34.length cp36] : LV)) (o := 0) (cs := ([iv y29, .string y30, .string y31, .bool y32, iv y33, .slice A35 y34.length cp36] : LV)) (pick2 _ _ _) (by kernel_rfl) (whole _ _ (by kernel_rfl)))) hI ?_)
            obtain ⟨⟨y78, y79, y80, y81, y82, y83⟩, hc77, h1⟩ := bindS h1
            try dsimp only at h1
            refine oC (Does.call (d := some 75) (n := 48) (vs := [.agg ([iv y29, .string y30, .string y31, .bool y32, iv y33, .slice A35 y34.length cp36] : LV).toArray]) (by kernel_rfl) en48 (c48 w0 w _ _ hI (hT.mono (Hp.le_trans (Hp.le_trans (Hp.le_trans hle13 hle27) hle42) hle75)) y29 y30 y31 y32 y33 A35 cp36 y34 (hr37.mono hle75) _ hc77) ?_)
            rintro e w ⟨A84, cp85, Z87, hle88, rfl, hr86, hI⟩
            refine ⟨_, rfl, ?_⟩
            refine oP (r := [50, 51, 52, 53, 54]) [46, 47, 48, 49] (S' := [(79, .bool (seq y79 (⟨#[120]⟩ : ByteArray)))]) (by kernel_rfl) ?_
            by_cases hb89 : (seq y79 (⟨#[120]⟩ : ByteArray)) = true
            ·
             rw [if_pos hb89] at h1
             refine oK [79] (S' := [(79, .bool true)]) (by (try simp only [hb89]); kernel_rfl) ?_
             refine oP (r := [51, 52, 53, 54]) [50] (S' := [(79, .bool true), (80, .agg ((([iv 0, .string (⟨#[]⟩ : ByteArray), .string (⟨#[]⟩ : ByteArray), .bool false, iv 0, .slice none 0 0] : LV))).toArray)]) (by kernel_rfl) ?_
             obtain ⟨y91, hc90, h1⟩ := bindS h1
             try dsimp only at h1
             refine oC (Does.call (d := some 81) (n := 46) (vs := [.agg ((([iv 0, .string (⟨#[]⟩ : ByteArray), .string (⟨#[]⟩ : ByteArray), .bool false, iv 0, .slice none 0 0] : LV))).toArray]) (by kernel_rfl) en46 (c46 w0 w _ _ hI (hT.mono (Hp.le_trans (Hp.le_trans (Hp.le_trans (Hp.le_trans hle13 hle27) hle42) hle75) hle88)) 0 (⟨#[]⟩ : ByteArray) (⟨#[]⟩ : ByteArray) false 0 none 0 ([] : List ByteArray) (RdS.nil _ _ _ _ _ (Nat.zero_le _)) _ hc90) ?_)
             rintro e w ⟨rfl, hI⟩
             refine ⟨_, rfl, ?_⟩
             refine oP (r := []) [52, 53, 54] (S' := [(0, .bool (!y91))]) (by kernel_rfl) ?_
             refine oD ?_
             have hI := hI.drop
             have hI := hI.drop
             have hI := hI.drop
             have e := someS h1
             subst e
             exact Qn.thenJ fun a ha => ⟨!y91, Z87, rfl, ha.keep [0] (by kernel_rfl), hI, (Hp.le_trans hle75 hle88)⟩
            ·
             rw [if_neg hb89] at h1
             have hb89 : (seq y79 (⟨#[120]⟩ : ByteArray)) = false := by simpa using hb89
             refine oK [79] (S' := [(79, .bool false)]) (by (try simp only [hb89]); kernel_rfl) ?_
             refine oP (r := []) [50, 51, 52, 53, 54] (S' := [(0, .bool false)]) (by kernel_rfl) ?_
             refine oD ?_
             have hI := hI.drop
             have hI := hI.drop
             have hI := hI.drop
             have e := someS h1
             subst e
             exact Qn.thenJ fun a ha => ⟨false, Z87, rfl, ha.keep [0] (by kernel_rfl), hI, (Hp.le_trans hle75 hle88)⟩
           ·
            rw [if_neg hb76] at h1
            have hb76 : (seq y67 (⟨#[]⟩ : ByteArray)) = false := by simpa using hb76
            refine oK [4, 73] (S' := [(4, pb b43), (73, .bool false)]) (by (try simp only [hb76]); kernel_rfl) ?_
            refine oP (r := []) [44, 45, 46, 47, 48, 49, 50, 51, 52, 53, 54] (S' := [(0, .bool false)]) (by kernel_rfl) ?_
            refine oD ?_
            have hI := hI.drop
            have hI := hI.drop
            have hI := hI.drop
            have e := someS h1
            subst e
            exact Qn.thenJ fun a ha => ⟨false, Z74, rfl, ha.keep [0] (by kernel_rfl), hI, hle75⟩
          ·
           rw [if_neg hb63] at h1
           have hb63 : y62 = false := by simpa using hb63
           refine oK [4, 67] (S' := [(4, pb b43), (67, .bool false)]) (by (try simp only [hb63]); kernel_rfl) ?_
           refine oP (r := []) [38, 39, 40, 41, 42, 43, 44, 45, 46, 47, 48, 49, 50, 51, 52, 53, 54] (S' := [(0, .bool false)]) (by kernel_rfl) ?_
           refine oD ?_
           have hI := hI.drop
           have hI := hI.drop
           have hI := hI.drop
           have e := someS h1
           subst e
           exact Qn.thenJ fun a ha => ⟨false, Z41, rfl, ha.keep [0] (by kernel_rfl), hI, (Hp.le_refl _)⟩
         ·
          rw [if_neg hb60] at h1
          have hb60 : y59 = false := by simpa using hb60
          refine oK [4, 62] (S' := [(4, pb b43), (62, .bool false)]) (by (try simp only [hb60]); kernel_rfl) ?_
          refine oP (r := []) [33, 34, 35, 36, 37, 38, 39, 40, 41, 42, 43, 44, 45, 46, 47, 48, 49, 50, 51, 52, 53, 54] (S' := [(0, .bool false)]) (by kernel_rfl) ?_
          refine oD ?_
          have hI := hI.drop
          have hI := hI.drop
          have hI := hI.drop
          have e := someS h1
          subst e
          exact Qn.thenJ fun a ha => ⟨false, Z41, rfl, ha.keep [0] (by kernel_rfl), hI, (Hp.le_refl _)⟩
        ·
         rw [if_neg hb57] at h1
         have hb57 : (y47 == 0) = false := by simpa using hb57
         refine oK [4, 58] (S' := [(4, pb b43), (58, .bool false)]) (by (try simp only [hb57]); kernel_rfl) ?_
         refine oP (r := []) [29, 30, 31, 32, 33, 34, 35, 36, 37, 38, 39, 40, 41, 42, 43, 44, 45, 46, 47, 48, 49, 50, 51, 52, 53, 54] (S' := [(0, .bool false)]) (by kernel_rfl) ?_
         refine oD ?_
         have hI := hI.drop
         have hI := hI.drop
         have hI := hI.drop
         have e := someS h1
         subst e
         exact Qn.thenJ fun a ha => ⟨false, Z41, rfl, ha.keep [0] (by kernel_rfl), hI, (Hp.le_refl _)⟩
       ·
        rw [if_neg hb56] at h1
        have hb56 : (seq y46 (⟨#[98, 99]⟩ : ByteArray)) = false := by simpa using hb56
        refine oK [4, 8, 54] (S' := [(4, pb b43), (8, iv y47), (54, .bool false)]) (by (try simp only [hb56]); kernel_rfl) ?_
        refine oP (r := []) [25, 26, 27, 28, 29, 30, 31, 32, 33, 34, 35, 36, 37, 38, 39, 40, 41, 42, 43, 44, 45, 46, 47, 48, 49, 50, 51, 52, 53, 54] (S' := [(0, .bool false)]) (by kernel_rfl) ?_
        refine oD ?_
        have hI := hI.drop
        have hI := hI.drop
        have hI := hI.drop
        have e := someS h1
        subst e
        exact Qn.thenJ fun a ha => ⟨false, Z41, rfl, ha.keep [0] (by kernel_rfl), hI, (Hp.le_refl _)⟩
      ·
       rw [if_neg hb55] at h1
       have hb55 : (eq_ApiEvent y38 (ApiEvent.mk 1 1 (⟨#[]⟩ : ByteArray) 0 1 (List.replicate 32 (0 : Int)))) = false := by simpa using hb55
       refine oK [4, 7, 8, 50] (S' := [(4, pb b43), (7, .string y46), (8, iv y47), (50, .bool false)]) (by (try simp only [hb55]); kernel_rfl) ?_
       refine oP (r := []) [21, 22, 23, 24, 25, 26, 27, 28, 29, 30, 31, 32, 33, 34, 35, 36, 37, 38, 39, 40, 41, 42, 43, 44, 45, 46, 47, 48, 49, 50, 51, 52, 53, 54] (S' := [(0, .bool false)]) (by kernel_rfl) ?_
       refine oD ?_
       have hI := hI.drop
       have hI := hI.drop
       have hI := hI.drop
       have e := someS h1
       subst e
       exact Qn.thenJ fun a ha => ⟨false, Z41, rfl, ha.keep [0] (by kernel_rfl), hI, (Hp.le_refl _)⟩
     ·
      rw [if_neg hb54] at h1
      have hb54 : (seq y31 (⟨#[97, 98, 99]⟩ : ByteArray)) = false := by simpa using hb54
      refine oK [4, 5, 7, 8, 45] (S' := [(4, pb b43), (5, pb b44), (7, .string y46), (8, iv y47), (45, .bool false)]) (by (try simp only [hb54]); kernel_rfl) ?_
      refine oP (r := []) [16, 17, 18, 19, 20, 21, 22, 23, 24, 25, 26, 27, 28, 29, 30, 31, 32, 33, 34, 35, 36, 37, 38, 39, 40, 41, 42, 43, 44, 45, 46, 47, 48, 49, 50, 51, 52, 53, 54] (S' := [(0, .bool false)]) (by kernel_rfl) ?_
      refine oD ?_
      have hI := hI.drop
      have hI := hI.drop
      have hI := hI.drop
      have e := someS h1
      subst e
      exact Qn.thenJ fun a ha => ⟨false, Z41, rfl, ha.keep [0] (by kernel_rfl), hI, (Hp.le_refl _)⟩
    ·
     rw [if_neg hb53] at h1
     have hb53 : (y40 == 0) = false := by simpa using hb53
     refine oK [4, 5, 7, 8, 40] (S' := [(4, pb b43), (5, pb b44), (7, .string y46), (8, iv y47), (40, .bool false)]) (by (try simp only [hb53]); kernel_rfl) ?_
     refine oP (r := []) [11, 12, 13, 14, 15, 16, 17, 18, 19, 20, 21, 22, 23, 24, 25, 26, 27, 28, 29, 30, 31, 32, 33, 34, 35, 36, 37, 38, 39, 40, 41, 42, 43, 44, 45, 46, 47, 48, 49, 50, 51, 52, 53, 54] (S' := [(0, .bool false)]) (by kernel_rfl) ?_
     refine oD ?_
     have hI := hI.drop
     have hI := hI.drop
     have hI := hI.drop
     have e := someS h1
     subst e
     exact Qn.thenJ fun a ha => ⟨false, Z41, rfl, ha.keep [0] (by kernel_rfl), hI, (Hp.le_refl _)⟩
   ·
    rw [if_neg hb52] at h1
    have hb52 : (y25 == 0) = false := by simpa using hb52
    refine oK [4, 5, 6, 7, 8, 36] (S' := [(4, pb b43), (5, pb b44), (6, iv y40), (7, .string y46), (8, iv y47), (36, .bool false)]) (by (try simp only [hb52]); kernel_rfl) ?_
    refine oP (r := []) [7, 8, 9, 10, 11, 12, 13, 14, 15, 16, 17, 18, 19, 20, 21, 22, 23, 24, 25, 26, 27, 28, 29, 30, 31, 32, 33, 34, 35, 36, 37, 38, 39, 40, 41, 42, 43, 44, 45, 46, 47, 48, 49, 50, 51, 52, 53, 54] (S' := [(0, .bool false)]) (by kernel_rfl) ?_
    refine oD ?_
    have hI := hI.drop
    have hI := hI.drop
    have hI := hI.drop
    have e := someS h1
    subst e
    exact Qn.thenJ fun a ha => ⟨false, Z41, rfl, ha.keep [0] (by kernel_rfl), hI, (Hp.le_refl _)⟩
  ·
   rw [if_neg hb51] at h1
   have hb51 : (y10 == 0) = false := by simpa using hb51
   refine oK [3, 4, 5, 6, 7, 8, 32] (S' := [(3, iv y25), (4, pb b43), (5, pb b44), (6, iv y40), (7, .string y46), (8, iv y47), (32, .bool false)]) (by (try simp only [hb51]); kernel_rfl) ?_
   refine oP (r := []) [3, 4, 5, 6, 7, 8, 9, 10, 11, 12, 13, 14, 15, 16, 17, 18, 19, 20, 21, 22, 23, 24, 25, 26, 27, 28, 29, 30, 31, 32, 33, 34, 35, 36, 37, 38, 39, 40, 41, 42, 43, 44, 45, 46, 47, 48, 49, 50, 51, 52, 53, 54] (S' := [(0, .bool false)]) (by kernel_rfl) ?_
   refine oD ?_
   have hI := hI.drop
   have hI := hI.drop
   have hI := hI.drop
   have e := someS h1
   subst e
   exact Qn.thenJ fun a ha => ⟨false, Z41, rfl, ha.keep [0] (by kernel_rfl), hI, (Hp.le_refl _)⟩
 ·
  rintro a w ⟨x50, Z48, rfl, ha, hI, hle49⟩
  try dsimp only at h0
  refine CodT.of ?_ ha
  refine CodT.ret ?_
  have e := someS h0
  subst e
  refine qK [0] (S' := [(0, .bool x50)]) (by kernel_rfl) ?_
  exact post_ret (v := .bool x50) (fun a ha => RunRes.run (vs := [.bool x50]) (.tmp (t := 0) (by kernel_rfl) .nil) ha (by kernel_rfl)) ⟨rfl, hI.weaken (Hp.le_trans (Hp.le_trans (Hp.le_trans hle13 hle27) hle42) hle49)⟩
/-- cenotaph/cenotaphlaw08.few -/
theorem c27 (w0 w : World) (Z : Hp) (A : HP) (hI : Inv w0 Z w A) (hT : Tabs Z) (ud : Int) (ue : ByteArray) (ub : ByteArray) (uf : Bool) (ug : Int) (ua : Option Addr) (uh : Nat) (uc : (List ByteArray)) (ui : RdS Z cS 1 ua uh uc) (a1 : ApiOp) (r : Bool) (h0 : law08_few ud ue ub uf ug uc a1 = some r) :
  Calls prog 27 #[.agg ([iv ud, .string ue, .string ub, .bool uf, iv ug, .slice ua uc.length uh] : LV).toArray, .agg (c_ApiOp a1).toArray] w (fun e w' => e = .returned (.bool r) ∧ Inv w0 Z w' A) := by
 have e4 := calls_intro (R := (fun e w' => e = .returned (.bool r) ∧ Inv w0 Z w' A)) (w := w) (args := [.agg ([iv ud, .string ue, .string ub, .bool uf, iv ug, .slice ua uc.length uh] : LV).toArray, .agg (c_ApiOp a1).toArray]) (fn := Go.Proofs.Tryd.f27) 21 Go.Proofs.Tryd.func27 (by rfl) Go.Proofs.Tryd.ntmps27 (by kernel_rfl)
 refine e4 ?_
 clear e4
 unfold law08_few at h0
 refine cQ ?_
 refine cR [0, 1, 2] (by kernel_rfl) ?_
 refine oC (Does.boxL (d := 2) (T := 27) (v := .agg ([iv ud, .string ue, .string ub, .bool uf, iv ug, .slice ua uc.length uh] : LV).toArray) ([iv ud, .string ue, .string ub, .bool uf, iv ug, .slice ua uc.length uh] : LV) (by kernel_rfl) hI (by kernel_rfl) ?_)
 intro b1 w hI
 refine oC (Does.boxL (d := 3) (T := 48) (v := .agg (c_ApiOp a1).toArray) (c_ApiOp a1) (by kernel_rfl) hI (by kernel_rfl) ?_)
 intro b2 w hI
 refine oP (r := []) [2] (S' := [(2, pb b1), (3, pb b2)]) (by kernel_rfl) ?_
 refine oD ?_
 refine qT ?_
 refine cQ ?_
 refine cR [0, 1, 2] (by kernel_rfl) ?_
 refine oC (Does.yi (Yl.load (d := 6) (T := 27) (v := .agg ([iv ud, .string ue, .string ub, .bool uf, iv ug, .slice ua uc.length uh] : LV).toArray) (by kernel_rfl) (ldBN ty27 (l := ([iv ud, .string ue, .string ub, .bool uf, iv ug, .slice ua uc.length uh] : LV)) (o := 0) (cs := ([iv ud, .string ue, .string ub, .bool uf, iv ug, .slice ua uc.length uh] : LV)) (pick2 _ _ _) (by kernel_rfl) (whole _ _ (by kernel_rfl)))) hI ?_)
 obtain ⟨y4, hc3, h0⟩ := bindS h0
 try dsimp only at h0
 refine oC (Does.call (d := some 7) (n := 11) (vs := [.agg ([iv ud, .string ue, .string ub, .bool uf, iv ug, .slice ua uc.length uh] : LV).toArray]) (by kernel_rfl) en11 (c11 w0 w _ _ hI hT ud ue ub uf ug ua uh uc ui _ hc3) ?_)
 rintro e w ⟨rfl, hI⟩
 refine ⟨_, rfl, ?_⟩
 refine oP (r := []) [2] (S' := [(3, pb b2), (5, .bool y4)]) (by kernel_rfl) ?_
 refine oD ?_
 refine qT ?_
 obtain ⟨r1, h1, h0⟩ := bindS h0
 refine CodT.meet (fun a w => ∃ (x5 : Bool), x5 = r1 ∧ Fr 21 [(4, .bool x5)] a ∧ Inv w0 Z w A) ?_ ?_
 ·
  refine cR [0, 1, 2, 3, 4, 5, 6, 7, 8, 9, 10, 11, 12, 13] (by kernel_rfl) ?_
  refine oP (r := [2, 3, 4, 5, 6, 7, 8, 9, 10, 11, 12, 13]) [0, 1] (S' := [(3, pb b2), (9, .bool y4)]) (by kernel_rfl) ?_
  by_cases hb6 : y4 = true
  ·
   rw [if_pos hb6] at h1
   refine oK [3, 9] (S' := [(3, pb b2), (9, .bool true)]) (by (try simp only [hb6]); kernel_rfl) ?_
   refine oP (r := [3, 4, 5, 6, 7, 8, 9, 10, 11, 12, 13]) [2] (S' := [(3, pb b2), (9, .bool true), (10, .pointer (some ⟨b2, 2, none⟩))]) (by kernel_rfl) ?_
   refine oC (Does.yi (Yl.load (d := 11) (T := 9) (v := .string a1.Text) (by kernel_rfl) (ldB ty9 (l := c_ApiOp a1) (o := 2) (v := .string a1.Text) (ent_refl _) (by kernel_rfl))) hI ?_)
   refine oP (r := [8, 9, 10, 11, 12, 13]) [4, 5, 6, 7] (S' := [(3, pb b2), (15, .bool (decide ((a1.Text.size : Int) ≤ 700)))]) (by kernel_rfl) ?_
   by_cases hb7 : (decide ((a1.Text.size : Int) ≤ 700)) = true
   ·
    rw [if_pos hb7] at h1
    refine oK [3, 15] (S' := [(3, pb b2), (15, .bool true)]) (by (try simp only [hb7]); kernel_rfl) ?_
    refine oP (r := [9, 10, 11, 12, 13]) [8] (S' := [(15, .bool true), (16, .pointer (some ⟨b2, 1, none⟩))]) (by kernel_rfl) ?_
    refine oC (Does.yi (Yl.load (d := 17) (T := 9) (v := .string a1.Name) (by kernel_rfl) (ldB ty9 (l := c_ApiOp a1) (o := 1) (v := .string a1.Name) (ent_refl _) (by kernel_rfl))) hI ?_)
    refine oP (r := []) [10, 11, 12, 13] (S' := [(4, .bool (decide ((a1.Name.size : Int) ≤ 700)))]) (by kernel_rfl) ?_
    refine oD ?_
    have hI := hI.drop
    have hI := hI.drop
    have e := someS h1
    subst e
    exact Qn.thenJ fun a ha => ⟨decide ((a1.Name.size : Int) ≤ 700), rfl, ha.keep [4] (by kernel_rfl), hI⟩
   ·
    rw [if_neg hb7] at h1
    have hb7 : (decide ((a1.Text.size : Int) ≤ 700)) = false := by simpa using hb7
    refine oK [3, 15] (S' := [(3, pb b2), (15, .bool false)]) (by (try simp only [hb7]); kernel_rfl) ?_
    refine oP (r := []) [8, 9, 10, 11, 12, 13] (S' := [(4, .bool false)]) (by kernel_rfl) ?_
    refine oD ?_
    have hI := hI.drop
    have hI := hI.drop
    have e := someS h1
    subst e
    exact Qn.thenJ fun a ha => ⟨false, rfl, ha.keep [4] (by kernel_rfl), hI⟩
  ·
   rw [if_neg hb6] at h1
   have hb6 : y4 = false := by simpa using hb6
   refine oK [3, 9] (S' := [(3, pb b2), (9, .bool false)]) (by (try simp only [hb6]); kernel_rfl) ?_
   refine oP (r := []) [2, 3, 4, 5, 6, 7, 8, 9, 10, 11, 12, 13] (S' := [(4, .bool false)]) (by kernel_rfl) ?_
   refine oD ?_
   have hI := hI.drop
   have hI := hI.drop
   have e := someS h1
   subst e
   exact Qn.thenJ fun a ha => ⟨false, rfl, ha.keep [4] (by kernel_rfl), hI⟩
 ·
  rintro a w ⟨x5, rfl, ha, hI⟩
  try dsimp only at h0
  refine CodT.of ?_ ha
  refine CodT.ret ?_
  have e := someS h0
  subst e
  refine qK [4] (S' := [(4, .bool x5)]) (by kernel_rfl) ?_
  exact post_ret (v := .bool x5) (fun a ha => RunRes.run (vs := [.bool x5]) (.tmp (t := 4) (by kernel_rfl) .nil) ha (by kernel_rfl)) ⟨rfl, hI⟩
/-- cenotaph/cenotaphref08.Append -/
theorem c31 (w0 w : World) (Z : Hp) (A : HP) (hI : Inv w0 Z w A) (hT : Tabs Z) (ud : Int) (ue : ByteArray) (ub : ByteArray) (uf : Bool) (ug : Int) (ua : Option Addr) (uh : Nat) (uc : (List ByteArray)) (ui : RdS Z cS 1 ua uh uc) (a1 : ByteArray) (r : (Int × ByteArray × ByteArray × Bool × Int × (List ByteArray) × Int)) (h0 : ref08_Append ud ue ub uf ug uc a1 = some r) :
  Calls prog 31 #[.agg ([iv ud, .string ue, .string ub, .bool uf, iv ug, .slice ua uc.length uh] : LV).toArray, .string a1] w (fun e w' => ∃ (A1 : Option Addr) (c1 : Nat) (Z' : Hp), Z.le Z' ∧ e = .returned (.tuple #[.agg ([iv r.1, .string r.2.1, .string r.2.2.1, .bool r.2.2.2.1, iv r.2.2.2.2.1, .slice A1 r.2.2.2.2.2.1.length c1] : LV).toArray, iv r.2.2.2.2.2.2]) ∧ RdS Z' cS 1 A1 c1 r.2.2.2.2.2.1 ∧ Inv w0 Z' w' A) := by
 have e4 := calls_intro (R := (fun e w' => ∃ (A1 : Option Addr) (c1 : Nat) (Z' : Hp), Z.le Z' ∧ e = .returned (.tuple #[.agg ([iv r.1, .string r.2.1, .string r.2.2.1, .bool r.2.2.2.1, iv r.2.2.2.2.1, .slice A1 r.2.2.2.2.2.1.length c1] : LV).toArray, iv r.2.2.2.2.2.2]) ∧ RdS Z' cS 1 A1 c1 r.2.2.2.2.2.1 ∧ Inv w0 Z' w' A)) (w := w) (args := [.agg ([iv ud, .string ue, .string ub, .bool uf, iv ug, .slice ua uc.length uh] : LV).toArray, .string a1]) (fn := Go.Proofs.Tryd.f31) 26 Go.Proofs.Tryd.func31 (by rfl) Go.Proofs.Tryd.ntmps31 (by kernel_rfl)
 refine e4 ?_
 clear e4
 unfold ref08_Append at h0
 refine cQ ?_
 refine cR [0, 1, 2] (by kernel_rfl) ?_
 refine oC (Does.boxL (d := 2) (T := 27) (v := .agg ([iv ud, .string ue, .string ub, .bool uf, iv ug, .slice ua uc.length uh] : LV).toArray) ([iv ud, .string ue, .string ub, .bool uf, iv ug, .slice ua uc.length uh] : LV) (by kernel_rfl) hI (by kernel_rfl) ?_)
 intro b1 w hI
 refine oC (Does.allocL (d := 4) (T := 27) ((([iv 0, .string (⟨#[]⟩ : ByteArray), .string (⟨#[]⟩ : ByteArray), .bool false, iv 0, .slice none 0 0] : LV))) (by kernel_rfl) ty27 hI (by kernel_rfl) ?_)
 intro b2 w hI
 refine oP (r := []) [2] (S' := [(1, .string a1), (2, pb b1), (4, pb b2)]) (by kernel_rfl) ?_
 refine oD ?_
 refine qT ?_
 refine cQ ?_
 refine cQ ?_
 refine cR [0, 1] (by kernel_rfl) ?_
 refine oP (r := [1]) [0] (S' := [(1, .string a1), (2, pb b1), (4, pb b2), (6, .pointer (some ⟨b1, 3, none⟩))]) (by kernel_rfl) ?_
 refine oC (Does.yi (Yl.load (d := 7) (T := 4) (v := .bool uf) (by kernel_rfl) (ldB ty4 (l := ([iv ud, .string ue, .string ub, .bool uf, iv ug, .slice ua uc.length uh] : LV)) (o := 3) (v := .bool uf) (pick2 _ _ _) (by kernel_rfl))) hI ?_)
 refine oD ?_
 refine qT ?_
 by_cases hb3 : uf = true
 ·
  rw [if_pos hb3] at h0
  refine CodT.yes' (b := uf) (by kernel_rfl) hb3 ?_
  refine cQ ?_
  refine cR [0, 1, 2] (by kernel_rfl) ?_
  refine oC (Does.yi (Yl.load (d := 8) (T := 27) (v := .agg ([iv ud, .string ue, .string ub, .bool uf, iv ug, .slice ua uc.length uh] : LV).toArray) (by kernel_rfl) (ldBN ty27 (l := ([iv ud, .string ue, .string ub, .bool uf, iv ug, .slice ua uc.length uh] : LV)) (o := 0) (cs := ([iv ud, .string ue, .string ub, .bool uf, iv ug, .slice ua uc.length uh] : LV)) (pick2 _ _ _) (by kernel_rfl) (whole _ _ (by kernel_rfl)))) hI ?_)
  refine oC (dS (T := 27) (b := b2) (o := 0) (v := .agg ([iv ud, .string ue, .string ub, .bool uf, iv ug, .slice ua uc.length uh] : LV).toArray) (l := (([iv 0, .string (⟨#[]⟩ : ByteArray), .string (⟨#[]⟩ : ByteArray), .bool false, iv 0, .slice none 0 0] : LV))) (vs := ([iv ud, .string ue, .string ub, .bool uf, iv ug, .slice ua uc.length uh] : LV)) (L' := ([iv ud, .string ue, .string ub, .bool uf, iv ug, .slice ua uc.length uh] : LV)) (by kernel_rfl) ty27 hI (by kernel_rfl) (by kernel_rfl) (by kernel_rfl) (by kernel_rfl) (by kernel_rfl) ?_)
  intro w hI
  refine oP (r := []) [2] (S' := [(4, pb b2), (5, iv 5)]) (by kernel_rfl) ?_
  refine oD ?_
  refine qT ?_
  refine CodT.ret ?_
  refine Qn.ret_then ?_
  have hL4 := (ldBN ty27 (l := ([iv ud, .string ue, .string ub, .bool uf, iv ug, .slice ua uc.length uh] : LV)) (o := 0) (cs := ([iv ud, .string ue, .string ub, .bool uf, iv ug, .slice ua uc.length uh] : LV)) (ent_refl _) (by kernel_rfl) (whole _ _ (by kernel_rfl))) w hI
  have hI := hI.drop
  have hI := hI.drop
  have e := someS h0
  subst e
  refine qK [4, 5] (S' := [(4, pb b2), (5, iv 5)]) (by kernel_rfl) ?_
  exact post_ret (v := .tuple #[.agg ([iv ud, .string ue, .string ub, .bool uf, iv ug, .slice ua uc.length uh] : LV).toArray, iv 5]) (fun a ha => RunRes.run (vs := [.agg ([iv ud, .string ue, .string ub, .bool uf, iv ug, .slice ua uc.length uh] : LV).toArray, iv 5]) (.cell (t := 4) (T := 27) (ad := ⟨b2, 0, none⟩) (by kernel_rfl) hL4 (.tmp (t := 5) (by kernel_rfl) .nil)) ha (by kernel_rfl)) ⟨ua, uh, Z, Hp.le_refl _, rfl, ui, hI⟩
 ·
  rw [if_neg hb3] at h0
  refine CodT.no' (b := uf) (by kernel_rfl) (by simpa using hb3) ?_
  refine CodT.skip ?_
  refine qT ?_
  refine cQ ?_
  refine cQ ?_
  refine cR [0, 1] (by kernel_rfl) ?_
  refine oP (r := []) [0, 1] (S' := [(1, .string a1), (2, pb b1), (4, pb b2), (10, .bool (seq a1 (⟨#[]⟩ : ByteArray)))]) (by kernel_rfl) ?_
  refine oD ?_
  refine qT ?_
  by_cases hb5 : (seq a1 (⟨#[]⟩ : ByteArray)) = true
  ·
   rw [if_pos hb5] at h0
   refine CodT.yes' (b := seq a1 (⟨#[]⟩ : ByteArray)) (by kernel_rfl) hb5 ?_
   refine cQ ?_
   refine cR [0, 1, 2] (by kernel_rfl) ?_
   refine oC (Does.yi (Yl.load (d := 11) (T := 27) (v := .agg ([iv ud, .string ue, .string ub, .bool uf, iv ug, .slice ua uc.length uh] : LV).toArray) (by kernel_rfl) (ldBN ty27 (l := ([iv ud, .string ue, .string ub, .bool uf, iv ug, .slice ua uc.length uh] : LV)) (o := 0) (cs := ([iv ud, .string ue, .string ub, .bool uf, iv ug, .slice ua uc.length uh] : LV)) (pick2 _ _ _) (by kernel_rfl) (whole _ _ (by kernel_rfl)))) hI ?_)
   refine oC (dS (T := 27) (b := b2) (o := 0) (v := .agg ([iv ud, .string ue, .string ub, .bool uf, iv ug, .slice ua uc.length uh] : LV).toArray) (l := (([iv 0, .string (⟨#[]⟩ : ByteArray), .string (⟨#[]⟩ : ByteArray), .bool false, iv 0, .slice none 0 0] : LV))) (vs := ([iv ud, .string ue, .string ub, .bool uf, iv ug, .slice ua uc.length uh] : LV)) (L' := ([iv ud, .string ue, .string ub, .bool uf, iv ug, .slice ua uc.length uh] : LV)) (by kernel_rfl) ty27 hI (by kernel_rfl) (by kernel_rfl) (by kernel_rfl) (by kernel_rfl) (by kernel_rfl) ?_)
   intro w hI
   refine oP (r := []) [2] (S' := [(4, pb b2), (5, iv 1)]) (by kernel_rfl) ?_
   refine oD ?_
   refine qT ?_
   refine CodT.ret ?_
   refine Qn.ret_then ?_
   have hL6 := (ldBN ty27 (l := ([iv ud, .string ue, .string ub, .bool uf, iv ug, .slice ua uc.length uh] : LV)) (o := 0) (cs := ([iv ud, .string ue, .string ub, .bool uf, iv ug, .slice ua uc.length uh] : LV)) (ent_refl _) (by kernel_rfl) (whole _ _ (by kernel_rfl))) w hI
   have hI := hI.drop
   have hI := hI.drop
   have e := someS h0
   subst e
   refine qK [4, 5] (S' := [(4, pb b2), (5, iv 1)]) (by kernel_rfl) ?_
   exact post_ret (v := .tuple #[.agg ([iv ud, .string ue, .string ub, .bool uf, iv ug, .slice ua uc.length uh] : LV).toArray, iv 1]) (fun a ha => RunRes.run (vs := [.agg ([iv ud, .string ue, .string ub, .bool uf, iv ug, .slice ua uc.length uh] : LV).toArray, iv 1]) (.cell (t := 4) (T := 27) (ad := ⟨b2, 0, none⟩) (by kernel_rfl) hL6 (.tmp (t := 5) (by kernel_rfl) .nil)) ha (by kernel_rfl)) ⟨ua, uh, Z, Hp.le_refl _, rfl, ui, hI⟩
  ·
   rw [if_neg hb5] at h0
   refine CodT.no' (b := seq a1 (⟨#[]⟩ : ByteArray)) (by kernel_rfl) (by simpa using hb5) ?_
   refine CodT.skip ?_
   refine qT ?_
   refine cQ ?_
   refine cQ ?_
   refine cR [0, 1, 2, 3, 4, 5, 6] (by kernel_rfl) ?_
   refine oP (r := [1, 2, 3, 4, 5, 6]) [0] (S' := [(1, .string a1), (2, pb b1), (4, pb b2), (12, .pointer (some ⟨b1, 2, none⟩))]) (by kernel_rfl) ?_
   refine oC (Does.yi (Yl.load (d := 13) (T := 9) (v := .string ub) (by kernel_rfl) (ldB ty9 (l := ([iv ud, .string ue, .string ub, .bool uf, iv ug, .slice ua uc.length uh] : LV)) (o := 2) (v := .string ub) (pick2 _ _ _) (by kernel_rfl))) hI ?_)
   refine oP (r := []) [2, 3, 4, 5, 6] (S' := [(1, .string a1), (2, pb b1), (4, pb b2), (18, .bool (decide ((wi64 ((ub.size : Int) + (a1.size : Int))) > 600)))]) (by kernel_rfl) ?_
   refine oD ?_
   refine qT ?_
   by_cases hb7 : (decide ((wi64 ((ub.size : Int) + (a1.size : Int))) > 600)) = true
   ·
    rw [if_pos hb7] at h0
    refine CodT.yes' (b := decide ((wi64 ((ub.size : Int) + (a1.size : Int))) > 600)) (by kernel_rfl) hb7 ?_
    refine cQ ?_
    refine cR [0, 1, 2] (by kernel_rfl) ?_
    refine oC (Does.yi (Yl.load (d := 19) (T := 27) (v := .agg ([iv ud, .string ue, .string ub, .bool uf, iv ug, .slice ua uc.length uh] : LV).toArray) (by kernel_rfl) (ldBN ty27 (l := ([iv ud, .string ue, .string ub, .bool uf, iv ug, .slice ua uc.length uh] : LV)) (o := 0) (cs := ([iv ud, .string ue, .string ub, .bool uf, iv ug, .slice ua uc.length uh] : LV)) (pick2 _ _ _) (by kernel_rfl) (whole _ _ (by kernel_rfl)))) hI ?_)
    refine oC (dS (T := 27) (b := b2) (o := 0) (v := .agg ([iv ud, .string ue, .string ub, .bool uf, iv ug, .slice ua uc.length uh] : LV).toArray) (l := (([iv 0, .string (⟨#[]⟩ : ByteArray), .string (⟨#[]⟩ : ByteArray), .bool false, iv 0, .slice none 0 0] : LV))) (vs := ([iv ud, .string ue, .string ub, .bool uf, iv ug, .slice ua uc.length uh] : LV)) (L' := ([iv ud, .string ue, .string ub, .bool uf, iv ug, .slice ua uc.length uh] : LV)) (by kernel_rfl) ty27 hI (by kernel_rfl) (by kernel_rfl) (by kernel_rfl) (by kernel_rfl) (by kernel_rfl) ?_)
    intro w hI
    refine oP (r := []) [2] (S' := [(4, pb b2), (5, iv 10)]) (by kernel_rfl) ?_
    refine oD ?_
    refine qT ?_
    refine CodT.ret ?_
    refine Qn.ret_then ?_
    have hL8 := (ldBN ty27 (l := ([iv ud, .string ue, .string ub, .bool uf, iv ug, .slice ua uc.length uh] : LV)) (o := 0) (cs := ([iv ud, .string ue, .string ub, .bool uf, iv ug, .slice ua uc.length uh] : LV)) (ent_refl _) (by kernel_rfl) (whole _ _ (by kernel_rfl))) w hI
    have hI := hI.drop
    have hI := hI.drop
    have e := someS h0
    subst e
    refine qK [4, 5] (S' := [(4, pb b2), (5, iv 10)]) (by kernel_rfl) ?_
    exact post_ret (v := .tuple #[.agg ([iv ud, .string ue, .string ub, .bool uf, iv ug, .slice ua uc.length uh] : LV).toArray, iv 10]) (fun a ha => RunRes.run (vs := [.agg ([iv ud, .string ue, .string ub, .bool uf, iv ug, .slice ua uc.length uh] : LV).toArray, iv 10]) (.cell (t := 4) (T := 27) (ad := ⟨b2, 0, none⟩) (by kernel_rfl) hL8 (.tmp (t := 5) (by kernel_rfl) .nil)) ha (by kernel_rfl)) ⟨ua, uh, Z, Hp.le_refl _, rfl, ui, hI⟩
   ·
    rw [if_neg hb7] at h0
    refine CodT.no' (b := decide ((wi64 ((ub.size : Int) + (a1.size : Int))) > 600)) (by kernel_rfl) (by simpa using hb7) ?_
    refine CodT.skip ?_
    refine qT ?_
    refine cQ ?_
    refine cR [0, 1, 2, 3, 4, 5] (by kernel_rfl) ?_
    refine oP (r := [1, 2, 3, 4, 5]) [0] (S' := [(1, .string a1), (2, pb b1), (4, pb b2), (20, .pointer (some ⟨b1, 2, none⟩))]) (by kernel_rfl) ?_
    refine oC (Does.yi (Yl.load (d := 21) (T := 9) (v := .string ub) (by kernel_rfl) (ldB ty9 (l := ([iv ud, .string ue, .string ub, .bool uf, iv ug, .slice ua uc.length uh] : LV)) (o := 2) (v := .string ub) (pick2 _ _ _) (by kernel_rfl))) hI ?_)
    refine oP (r := [3, 4, 5]) [2] (S' := [(2, pb b1), (4, pb b2), (21, .string ub), (22, .string a1)]) (by kernel_rfl) ?_
    obtain ⟨hg9, h0⟩ := guardS h0
    refine oC (Does.yi (Yl.cat (d := 23) (T := 9) (x := ub) (y := a1) (by kernel_rfl) hg9) hI ?_)
    refine oP (r := [5]) [4] (S' := [(2, pb b1), (4, pb b2), (23, .string (ub ++ a1)), (24, .pointer (some ⟨b1, 2, none⟩))]) (by kernel_rfl) ?_
    have hI := hI.mono (pick2 _ _ _)
    refine oC (dS (T := 9) (b := b1) (o := 2) (v := .string (ub ++ a1)) (l := ([iv ud, .string ue, .string ub, .bool uf, iv ug, .slice ua uc.length uh] : LV)) (vs := ([.string (ub ++ a1)] : LV)) (L' := ([iv ud, .string ue, .string (ub ++ a1), .bool uf, iv ug, .slice ua uc.length uh] : LV)) (by kernel_rfl) ty9 hI (by kernel_rfl) (by kernel_rfl) (by kernel_rfl) (by kernel_rfl) (by kernel_rfl) ?_)
    intro w hI
    refine oD ?_
    refine qT ?_
    refine cQ ?_
    refine cR [0, 1, 2] (by kernel_rfl) ?_
    refine oC (Does.yi (Yl.load (d := 25) (T := 27) (v := .agg ([iv ud, .string ue, .string (ub ++ a1), .bool uf, iv ug, .slice ua uc.length uh] : LV).toArray) (by kernel_rfl) (ldBN ty27 (l := ([iv ud, .string ue, .string (ub ++ a1), .bool uf, iv ug, .slice ua uc.length uh] : LV)) (o := 0) (cs := ([iv ud, .string ue, .string (ub ++ a1), .bool uf, iv ug, .slice ua uc.length uh] : LV)) (ent_refl _) (by kernel_rfl) (whole _ _ (by kernel_rfl)))) hI ?_)
    have hI := hI.mono (pick2 _ _ _)
    refine oC (dS (T := 27) (b := b2) (o := 0) (v := .agg ([iv ud, .string ue, .string (ub ++ a1), .bool uf, iv ug, .slice ua uc.length uh] : LV).toArray) (l := (([iv 0, .string (⟨#[]⟩ : ByteArray), .string (⟨#[]⟩ : ByteArray), .bool false, iv 0, .slice none 0 0] : LV))) (vs := ([iv ud, .string ue, .string (ub ++ a1), .bool uf, iv ug, .slice ua uc.length uh] : LV)) (L' := ([iv ud, .string ue, .string (ub ++ a1), .bool uf, iv ug, .slice ua uc.length uh] : LV)) (by kernel_rfl) ty27 hI (by kernel_rfl) (by kernel_rfl) (by kernel_rfl) (by kernel_rfl) (by kernel_rfl) ?_)
    intro w hI
    refine oP (r := []) [2] (S' := [(4, pb b2), (5, iv 0)]) (by kernel_rfl) ?_
    refine oD ?_
    refine qT ?_
    refine CodT.ret ?_
    have hL10 := (ldBN ty27 (l := ([iv ud, .string ue, .string (ub ++ a1), .bool uf, iv ug, .slice ua uc.length uh] : LV)) (o := 0) (cs := ([iv ud, .string ue, .string (ub ++ a1), .bool uf, iv ug, .slice ua uc.length uh] : LV)) (ent_refl _) (by kernel_rfl) (whole _ _ (by kernel_rfl))) w hI
    have hI := hI.drop
    have hI := hI.drop
    have e := someS h0
    subst e
    refine qK [4, 5] (S' := [(4, pb b2), (5, iv 0)]) (by kernel_rfl) ?_
    exact post_ret (v := .tuple #[.agg ([iv ud, .string ue, .string (ub ++ a1), .bool uf, iv ug, .slice ua uc.length uh] : LV).toArray, iv 0]) (fun a ha => RunRes.run (vs := [.agg ([iv ud, .string ue, .string (ub ++ a1), .bool uf, iv ug, .slice ua uc.length uh] : LV).toArray, iv 0]) (.cell (t := 4) (T := 27) (ad := ⟨b2, 0, none⟩) (by kernel_rfl) hL10 (.tmp (t := 5) (by kernel_rfl) .nil)) ha (by kernel_rfl)) ⟨ua, uh, Z, Hp.le_refl _, rfl, ui, hI⟩
/-- cenotaph/cenotaphref07.Seal -/
theorem c51 (w0 w : World) (Z : Hp) (A : HP) (hI : Inv w0 Z w A) (hT : Tabs Z) (ud : Int) (ue : ByteArray) (ub : ByteArray) (uf : Bool) (ug : Int) (ua : Option Addr) (uh : Nat) (uc : (List ByteArray)) (ui : RdS Z cS 1 ua uh uc) (a1 : Int) (r : (Int × ByteArray × ByteArray × Bool × Int × (List ByteArray) × Int)) (h0 : ref07_Seal ud ue ub uf ug uc a1 = some r) :
  Calls prog 51 #[.agg ([iv ud, .string ue, .string ub, .bool uf, iv ug, .slice ua uc.length uh] : LV).toArray, iv a1] w (fun e w' => ∃ (A1 : Option Addr) (c1 : Nat) (Z' : Hp), Z.le Z' ∧ e = .returned (.tuple #[.agg ([iv r.1, .string r.2.1, .string r.2.2.1, .bool r.2.2.2.1, iv r.2.2.2.2.1, .slice A1 r.2.2.2.2.2.1.length c1] : LV).toArray, iv r.2.2.2.2.2.2]) ∧ RdS Z' cS 1 A1 c1 r.2.2.2.2.2.1 ∧ Inv w0 Z' w' A) := by
 have e4 := calls_intro (R := (fun e w' => ∃ (A1 : Option Addr) (c1 : Nat) (Z' : Hp), Z.le Z' ∧ e = .returned (.tuple #[.agg ([iv r.1, .string r.2.1, .string r.2.2.1, .bool r.2.2.2.1, iv r.2.2.2.2.1, .slice A1 r.2.2.2.2.2.1.length c1] : LV).toArray, iv r.2.2.2.2.2.2]) ∧ RdS Z' cS 1 A1 c1 r.2.2.2.2.2.1 ∧ Inv w0 Z' w' A)) (w := w) (args := [.agg ([iv ud, .string ue, .string ub, .bool uf, iv ug, .slice ua uc.length uh] : LV).toArray, iv a1]) (fn := Go.Proofs.Tryd.f51) 20 Go.Proofs.Tryd.func51 (by rfl) Go.Proofs.Tryd.ntmps51 (by kernel_rfl)
 refine e4 ?_
 clear e4
 unfold ref07_Seal at h0
 refine cQ ?_
 refine cR [0, 1, 2] (by kernel_rfl) ?_
 refine oC (Does.boxL (d := 2) (T := 27) (v := .agg ([iv ud, .string ue, .string ub, .bool uf, iv ug, .slice ua uc.length uh] : LV).toArray) ([iv ud, .string ue, .string ub, .bool uf, iv ug, .slice ua uc.length uh] : LV) (by kernel_rfl) hI (by kernel_rfl) ?_)
 intro b1 w hI
 refine oC (Does.allocL (d := 4) (T := 27) ((([iv 0, .string (⟨#[]⟩ : ByteArray), .string (⟨#[]⟩ : ByteArray), .bool false, iv 0, .slice none 0 0] : LV))) (by kernel_rfl) ty27 hI (by kernel_rfl) ?_)
 intro b2 w hI
 refine oP (r := []) [2] (S' := [(1, iv a1), (2, pb b1), (4, pb b2)]) (by kernel_rfl) ?_
 refine oD ?_
 refine qT ?_
 refine cQ ?_
 refine cQ ?_
 refine cR [0, 1] (by kernel_rfl) ?_
 refine oP (r := [1]) [0] (S' := [(1, iv a1), (2, pb b1), (4, pb b2), (6, .pointer (some ⟨b1, 3, none⟩))]) (by kernel_rfl) ?_
 refine oC (Does.yi (Yl.load (d := 7) (T := 4) (v := .bool uf) (by kernel_rfl) (ldB ty4 (l := ([iv ud, .string ue, .string ub, .bool uf, iv ug, .slice ua uc.length uh] : LV)) (o := 3) (v := .bool uf) (pick2 _ _ _) (by kernel_rfl))) hI ?_)
 refine oD ?_
 refine qT ?_
 by_cases hb3 : uf = true
 ·
  rw [if_pos hb3] at h0
  refine CodT.yes' (b := uf) (by kernel_rfl) hb3 ?_
  refine cQ ?_
  refine cR [0, 1, 2] (by kernel_rfl) ?_
  refine oC (Does.yi (Yl.load (d := 8) (T := 27) (v := .agg ([iv ud, .string ue, .string ub, .bool uf, iv ug, .slice ua uc.length uh] : LV).toArray) (by kernel_rfl) (ldBN ty27 (l := ([iv ud, .string ue, .string ub, .bool uf, iv ug, .slice ua uc.length uh] : LV)) (o := 0) (cs := ([iv ud, .string ue, .string ub, .bool uf, iv ug, .slice ua uc.length uh] : LV)) (pick2 _ _ _) (by kernel_rfl) (whole _ _ (by kernel_rfl)))) hI ?_)
  refine oC (dS (T := 27) (b := b2) (o := 0) (v := .agg ([iv ud, .string ue, .string ub, .bool uf, iv ug, .slice ua uc.length uh] : LV).toArray) (l := (([iv 0, .string (⟨#[]⟩ : ByteArray), .string (⟨#[]⟩ : ByteArray), .bool false, iv 0, .slice none 0 0] : LV))) (vs := ([iv ud, .string ue, .string ub, .bool uf, iv ug, .slice ua uc.length uh] : LV)) (L' := ([iv ud, .string ue, .string ub, .bool uf, iv ug, .slice ua uc.length uh] : LV)) (by kernel_rfl) ty27 hI (by kernel_rfl) (by kernel_rfl) (by kernel_rfl) (by kernel_rfl) (by kernel_rfl) ?_)
  intro w hI
  refine oP (r := []) [2] (S' := [(4, pb b2), (5, iv 5)]) (by kernel_rfl) ?_
  refine oD ?_
  refine qT ?_
  refine CodT.ret ?_
  refine Qn.ret_then ?_
  have hL4 := (ldBN ty27 (l := ([iv ud, .string ue, .string ub, .bool uf, iv ug, .slice ua uc.length uh] : LV)) (o := 0) (cs := ([iv ud, .string ue, .string ub, .bool uf, iv ug, .slice ua uc.length uh] : LV)) (ent_refl _) (by kernel_rfl) (whole _ _ (by kernel_rfl))) w hI
  have hI := hI.drop
  have hI := hI.drop
  have e := someS h0
  subst e
  refine qK [4, 5] (S' := [(4, pb b2), (5, iv 5)]) (by kernel_rfl) ?_
  exact post_ret (v := .tuple #[.agg ([iv ud, .string ue, .string ub, .bool uf, iv ug, .slice ua uc.length uh] : LV).toArray, iv 5]) (fun a ha => RunRes.run (vs := [.agg ([iv ud, .string ue, .string ub, .bool uf, iv ug, .slice ua uc.length uh] : LV).toArray, iv 5]) (.cell (t := 4) (T := 27) (ad := ⟨b2, 0, none⟩) (by kernel_rfl) hL4 (.tmp (t := 5) (by kernel_rfl) .nil)) ha (by kernel_rfl)) ⟨ua, uh, Z, Hp.le_refl _, rfl, ui, hI⟩
 ·
  rw [if_neg hb3] at h0
  refine CodT.no' (b := uf) (by kernel_rfl) (by simpa using hb3) ?_
  refine CodT.skip ?_
  refine qT ?_
  refine cQ ?_
  obtain ⟨r1, h1, h0⟩ := bindS h0
  refine CodT.meet (fun a w => ∃ (x5 : Bool), x5 = r1 ∧ Fr 20 [(1, iv a1), (2, pb b1), (4, pb b2), (14, .bool x5)] a ∧ Inv w0 Z w (star (pt b2 (.cells ((([iv 0, .string (⟨#[]⟩ : ByteArray), .string (⟨#[]⟩ : ByteArray), .bool false, iv 0, .slice none 0 0] : LV))).toArray 27 (0, 0))) (star (pt b1 (.cells ([iv ud, .string ue, .string ub, .bool uf, iv ug, .slice ua uc.length uh] : LV).toArray 27 (0, 0))) A))) ?_ ?_
  ·
   refine cR [0, 1, 2, 3, 4, 5] (by kernel_rfl) ?_
   refine oP (r := [3, 4, 5]) [0, 1, 2] (S' := [(1, iv a1), (2, pb b1), (4, pb b2), (11, .bool (decide (a1 < 0)))]) (by kernel_rfl) ?_
   by_cases hb6 : (decide (a1 < 0)) = true
   ·
    rw [if_pos hb6] at h1
    refine oK [1, 2, 4, 11] (S' := [(1, iv a1), (2, pb b1), (4, pb b2), (11, .bool true)]) (by (try simp only [hb6]); kernel_rfl) ?_
    refine oP (r := []) [3, 4, 5] (S' := [(1, iv a1), (2, pb b1), (4, pb b2), (14, .bool true)]) (by kernel_rfl) ?_
    refine oD ?_
    have e := someS h1
    subst e
    exact Qn.thenJ fun a ha => ⟨true, rfl, ha.keep [1, 2, 4, 14] (by kernel_rfl), hI⟩
   ·
    rw [if_neg hb6] at h1
    have hb6 : (decide (a1 < 0)) = false := by simpa using hb6
    refine oK [1, 2, 4, 11] (S' := [(1, iv a1), (2, pb b1), (4, pb b2), (11, .bool false)]) (by (try simp only [hb6]); kernel_rfl) ?_
    refine oP (r := []) [3, 4, 5] (S' := [(1, iv a1), (2, pb b1), (4, pb b2), (14, .bool (decide (a1 > 1099511627776)))]) (by kernel_rfl) ?_
    refine oD ?_
    have e := someS h1
    subst e
    exact Qn.thenJ fun a ha => ⟨decide (a1 > 1099511627776), rfl, ha.keep [1, 2, 4, 14] (by kernel_rfl), hI⟩
  ·
   rintro a w ⟨x5, rfl, ha, hI⟩
   try dsimp only at h0
   refine CodT.of ?_ ha
   by_cases hb7 : x5 = true
   ·
    rw [if_pos hb7] at h0
    refine CodT.yes' (b := x5) (by kernel_rfl) hb7 ?_
    refine cQ ?_
    refine cR [0, 1, 2] (by kernel_rfl) ?_
    refine oC (Does.yi (Yl.load (d := 15) (T := 27) (v := .agg ([iv ud, .string ue, .string ub, .bool uf, iv ug, .slice ua uc.length uh] : LV).toArray) (by kernel_rfl) (ldBN ty27 (l := ([iv ud, .string ue, .string ub, .bool uf, iv ug, .slice ua uc.length uh] : LV)) (o := 0) (cs := ([iv ud, .string ue, .string ub, .bool uf, iv ug, .slice ua uc.length uh] : LV)) (pick2 _ _ _) (by kernel_rfl) (whole _ _ (by kernel_rfl)))) hI ?_)
    refine oC (dS (T := 27) (b := b2) (o := 0) (v := .agg ([iv ud, .string ue, .string ub, .bool uf, iv ug, .slice ua uc.length uh] : LV).toArray) (l := (([iv 0, .string (⟨#[]⟩ : ByteArray), .string (⟨#[]⟩ : ByteArray), .bool false, iv 0, .slice none 0 0] : LV))) (vs := ([iv ud, .string ue, .string ub, .bool uf, iv ug, .slice ua uc.length uh] : LV)) (L' := ([iv ud, .string ue, .string ub, .bool uf, iv ug, .slice ua uc.length uh] : LV)) (by kernel_rfl) ty27 hI (by kernel_rfl) (by kernel_rfl) (by kernel_rfl) (by kernel_rfl) (by kernel_rfl) ?_)
    intro w hI
    refine oP (r := []) [2] (S' := [(4, pb b2), (5, iv 1)]) (by kernel_rfl) ?_
    refine oD ?_
    refine qT ?_
    refine CodT.ret ?_
    refine Qn.ret_then ?_
    have hL8 := (ldBN ty27 (l := ([iv ud, .string ue, .string ub, .bool uf, iv ug, .slice ua uc.length uh] : LV)) (o := 0) (cs := ([iv ud, .string ue, .string ub, .bool uf, iv ug, .slice ua uc.length uh] : LV)) (ent_refl _) (by kernel_rfl) (whole _ _ (by kernel_rfl))) w hI
    have hI := hI.drop
    have hI := hI.drop
    have e := someS h0
    subst e
    refine qK [4, 5] (S' := [(4, pb b2), (5, iv 1)]) (by kernel_rfl) ?_
    exact post_ret (v := .tuple #[.agg ([iv ud, .string ue, .string ub, .bool uf, iv ug, .slice ua uc.length uh] : LV).toArray, iv 1]) (fun a ha => RunRes.run (vs := [.agg ([iv ud, .string ue, .string ub, .bool uf, iv ug, .slice ua uc.length uh] : LV).toArray, iv 1]) (.cell (t := 4) (T := 27) (ad := ⟨b2, 0, none⟩) (by kernel_rfl) hL8 (.tmp (t := 5) (by kernel_rfl) .nil)) ha (by kernel_rfl)) ⟨ua, uh, Z, Hp.le_refl _, rfl, ui, hI⟩
   ·
    rw [if_neg hb7] at h0
    refine CodT.no' (b := x5) (by kernel_rfl) (by simpa using hb7) ?_
    refine CodT.skip ?_
    refine qT ?_
    refine cQ ?_
    refine cR [0, 1] (by kernel_rfl) ?_
    refine oP (r := [1]) [0] (S' := [(1, iv a1), (2, pb b1), (4, pb b2), (16, .pointer (some ⟨b1, 3, none⟩))]) (by kernel_rfl) ?_
    have hI := hI.mono (pick2 _ _ _)
    refine oC (dS (T := 4) (b := b1) (o := 3) (v := .bool true) (l := ([iv ud, .string ue, .string ub, .bool uf, iv ug, .slice ua uc.length uh] : LV)) (vs := ([.bool true] : LV)) (L' := ([iv ud, .string ue, .string ub, .bool true, iv ug, .slice ua uc.length uh] : LV)) (by kernel_rfl) ty4 hI (by kernel_rfl) (by kernel_rfl) (by kernel_rfl) (by kernel_rfl) (by kernel_rfl) ?_)
    intro w hI
    refine oD ?_
    refine qT ?_
    refine cQ ?_
    refine cR [0, 1, 2] (by kernel_rfl) ?_
    refine oP (r := [2]) [0, 1] (S' := [(2, pb b1), (4, pb b2), (17, iv a1), (18, .pointer (some ⟨b1, 4, none⟩))]) (by kernel_rfl) ?_
    refine oC (dS (T := 3) (b := b1) (o := 4) (v := iv a1) (l := ([iv ud, .string ue, .string ub, .bool true, iv ug, .slice ua uc.length uh] : LV)) (vs := ([iv a1] : LV)) (L' := ([iv ud, .string ue, .string ub, .bool true, iv a1, .slice ua uc.length uh] : LV)) (by kernel_rfl) ty3 hI (by kernel_rfl) (by kernel_rfl) (by kernel_rfl) (by kernel_rfl) (by kernel_rfl) ?_)
    intro w hI
    refine oD ?_
    refine qT ?_
    refine cQ ?_
    refine cR [0, 1, 2] (by kernel_rfl) ?_
    refine oC (Does.yi (Yl.load (d := 19) (T := 27) (v := .agg ([iv ud, .string ue, .string ub, .bool true, iv a1, .slice ua uc.length uh] : LV).toArray) (by kernel_rfl) (ldBN ty27 (l := ([iv ud, .string ue, .string ub, .bool true, iv a1, .slice ua uc.length uh] : LV)) (o := 0) (cs := ([iv ud, .string ue, .string ub, .bool true, iv a1, .slice ua uc.length uh] : LV)) (ent_refl _) (by kernel_rfl) (whole _ _ (by kernel_rfl)))) hI ?_)
    have hI := hI.mono (pick2 _ _ _)
    refine oC (dS (T := 27) (b := b2) (o := 0) (v := .agg ([iv ud, .string ue, .string ub, .bool true, iv a1, .slice ua uc.length uh] : LV).toArray) (l := (([iv 0, .string (⟨#[]⟩ : ByteArray), .string (⟨#[]⟩ : ByteArray), .bool false, iv 0, .slice none 0 0] : LV))) (vs := ([iv ud, .string ue, .string ub, .bool true, iv a1, .slice ua uc.length uh] : LV)) (L' := ([iv ud, .string ue, .string ub, .bool true, iv a1, .slice ua uc.length uh] : LV)) (by kernel_rfl) ty27 hI (by kernel_rfl) (by kernel_rfl) (by kernel_rfl) (by kernel_rfl) (by kernel_rfl) ?_)
    intro w hI
    refine oP (r := []) [2] (S' := [(4, pb b2), (5, iv 0)]) (by kernel_rfl) ?_
    refine oD ?_
    refine qT ?_
    refine CodT.ret ?_
    have hL9 := (ldBN ty27 (l := ([iv ud, .string ue, .string ub, .bool true, iv a1, .slice ua uc.length uh] : LV)) (o := 0) (cs := ([iv ud, .string ue, .string ub, .bool true, iv a1, .slice ua uc.length uh] : LV)) (ent_refl _) (by kernel_rfl) (whole _ _ (by kernel_rfl))) w hI
    have hI := hI.drop
    have hI := hI.drop
    have e := someS h0
    subst e
    refine qK [4, 5] (S' := [(4, pb b2), (5, iv 0)]) (by kernel_rfl) ?_
    exact post_ret (v := .tuple #[.agg ([iv ud, .string ue, .string ub, .bool true, iv a1, .slice ua uc.length uh] : LV).toArray, iv 0]) (fun a ha => RunRes.run (vs := [.agg ([iv ud, .string ue, .string ub, .bool true, iv a1, .slice ua uc.length uh] : LV).toArray, iv 0]) (.cell (t := 4) (T := 27) (ad := ⟨b2, 0, none⟩) (by kernel_rfl) hL9 (.tmp (t := 5) (by kernel_rfl) .nil)) ha (by kernel_rfl)) ⟨ua, uh, Z, Hp.le_refl _, rfl, ui, hI⟩
/-- cenotaph/cenotaphref02.roots -/
theorem c67 (w0 w : World) (Z : Hp) (A : HP) (hI : Inv w0 Z w A) (hT : Tabs Z)  (r : (List Int)) (h0 : ref02_roots = some r) :
  Calls prog 67 #[] w (fun e w' => e = .returned (.agg (cA (Value.int .u32) r).toArray) ∧ r.length = 8 ∧ Inv w0 Z w' A) := by
 have e4 := calls_intro (R := (fun e w' => e = .returned (.agg (cA (Value.int .u32) r).toArray) ∧ r.length = 8 ∧ Inv w0 Z w' A)) (w := w) (args := []) (fn := Go.Proofs.Tryd.f67) 2 Go.Proofs.Tryd.func67 (by rfl) Go.Proofs.Tryd.ntmps67 (by kernel_rfl)
 refine e4 ?_
 clear e4
 unfold ref02_roots at h0
 refine cQ ?_
 refine cR [0] (by kernel_rfl) ?_
 refine oC (Does.allocL (d := 0) (T := 90) (cA (Value.int .u32) (List.replicate 8 (0 : Int))) (by kernel_rfl) ty90 hI (by kernel_rfl) ?_)
 intro b1 w hI
 refine oD ?_
 refine qT ?_
 refine cQ ?_
 refine cR [0, 1] (by kernel_rfl) ?_
 refine oP (r := [1]) [0] (S' := [(0, pb b1), (1, .agg (cA (Value.int .u32) ([1779033703, 3144134277, 1013904242, 2773480762, 1359893119, 2600822924, 528734635, 1541459225] : List Int)).toArray)]) (by kernel_rfl) ?_
 refine oC (Does.storeAll (T := 90) (b := b1) (n := 8) (xs := (List.replicate 8 (0 : Int))) (ys := ([1779033703, 3144134277, 1013904242, 2773480762, 1359893119, 2600822924, 528734635, 1541459225] : List Int)) (by kernel_rfl) ty90 hI (fun _ => rfl) (by kernel_rfl) (by kernel_rfl) ?_)
 intro w hI
 refine oD ?_
 refine qT ?_
 refine CodT.ret ?_
 have hL2 := (ldBN ty90 (l := cA (Value.int .u32) ([1779033703, 3144134277, 1013904242, 2773480762, 1359893119, 2600822924, 528734635, 1541459225] : List Int)) (o := 0) (cs := cA (Value.int .u32) ([1779033703, 3144134277, 1013904242, 2773480762, 1359893119, 2600822924, 528734635, 1541459225] : List Int)) (ent_refl _) ((cA_length _ _).trans (by kernel_rfl)) (whole _ _ ((cA_length _ _).trans (by kernel_rfl)))) w hI
 have hI := hI.drop
 have e := someS h0
 subst e
 refine qK [0] (S' := [(0, pb b1)]) (by kernel_rfl) ?_
 exact post_ret (v := .agg (cA (Value.int .u32) ([1779033703, 3144134277, 1013904242, 2773480762, 1359893119, 2600822924, 528734635, 1541459225] : List Int)).toArray) (fun a ha => RunRes.run (vs := [.agg (cA (Value.int .u32) ([1779033703, 3144134277, 1013904242, 2773480762, 1359893119, 2600822924, 528734635, 1541459225] : List Int)).toArray]) (.cell (t := 0) (T := 90) (ad := ⟨b1, 0, none⟩) (by kernel_rfl) hL2 .nil) ha (by kernel_rfl)) ⟨rfl, (by kernel_rfl), hI⟩
/-- cenotaph/cenotaphref02.cubes -/
theorem c68 (w0 w : World) (Z : Hp) (A : HP) (hI : Inv w0 Z w A) (hT : Tabs Z)  (r : (List Int)) (h0 : ref02_cubes = some r) :
  Calls prog 68 #[] w (fun e w' => e = .returned (.agg (cA (Value.int .u32) r).toArray) ∧ r.length = 64 ∧ Inv w0 Z w' A) := by
 have e4 := calls_intro (R := (fun e w' => e = .returned (.agg (cA (Value.int .u32) r).toArray) ∧ r.length = 64 ∧ Inv w0 Z w' A)) (w := w) (args := []) (fn := Go.Proofs.Tryd.f68) 2 Go.Proofs.Tryd.func68 (by rfl) Go.Proofs.Tryd.ntmps68 (by kernel_rfl)
 refine e4 ?_
 clear e4
 unfold ref02_cubes at h0
 refine cQ ?_
 refine cR [0] (by kernel_rfl) ?_
 refine oC (Does.allocL (d := 0) (T := 92) (cA (Value.int .u32) (List.replicate 64 (0 : Int))) (by kernel_rfl) ty92 hI (by kernel_rfl) ?_)
 intro b1 w hI
 refine oD ?_
 refine qT ?_
 refine cQ ?_
 refine cR [0, 1] (by kernel_rfl) ?_
 refine oP (r := [1]) [0] (S' := [(0, pb b1), (1, .agg (cA (Value.int .u32) ([1116352408, 1899447441, 3049323471, 3921009573, 961987163, 1508970993, 2453635748, 2870763221, 3624381080, 310598401, 607225278, 1426881987, 1925078388, 2162078206, 2614888103, 3248222580, 3835390401, 4022224774, 264347078, 604807628, 770255983, 1249150122, 1555081692, 1996064986, 2554220882, 2821834349, 2952996808, 3210313671, 3336571891, 3584528711, 113926993, 338241895, 666307205, 773529912, 1294757372, 1396182291, 1695183700, 1986661051, 2177026350, 2456956037, 2730485921, 2820302411, 3259730800, 3345764771, 3516065817, 3600352804, 4094571909, 275423344, 430227734, 506948616, 659060556, 883997877, 958139571, 1322822218, 1537002063, 1747873779, 1955562222, 2024104815, 2227730452, 2361852424, 2428436474, 2756734187, 3204031479, 3329325298] : List Int)).toArray)]) (by kernel_rfl) ?_
 refine oC (Does.storeAll (T := 92) (b := b1) (n := 64) (xs := (List.replicate 64 (0 : Int))) (ys := ([1116352408, 1899447441, 3049323471, 3921009573, 961987163, 1508970993, 2453635748, 2870763221, 3624381080, 310598401, 607225278, 1426881987, 1925078388, 2162078206, 2614888103, 3248222580, 3835390401, 4022224774, 264347078, 604807628, 770255983, 1249150122, 1555081692, 1996064986, 2554220882, 2821834349, 2952996808, 3210313671, 3336571891, 3584528711, 113926993, 338241895, 666307205, 773529912, 1294757372, 1396182291, 1695183700, 1986661051, 2177026350, 2456956037, 2730485921, 2820302411, 3259730800, 3345764771, 3516065817, 3600352804, 4094571909, 275423344, 430227734, 506948616, 659060556, 883997877, 958139571, 1322822218, 1537002063, 1747873779, 1955562222, 2024104815, 2227730452, 2361852424, 2428436474, 2756734187, 3204031479, 3329325298] : List Int)) (by kernel_rfl) ty92 hI (fun _ => rfl) (by kernel_rfl) (by kernel_rfl) ?_)
 intro w hI
 refine oD ?_
 refine qT ?_
 refine CodT.ret ?_
 have hL2 := (ldBN ty92 (l := cA (Value.int .u32) ([1116352408, 1899447441, 3049323471, 3921009573, 961987163, 1508970993, 2453635748, 2870763221, 3624381080, 310598401, 607225278, 1426881987, 1925078388, 2162078206, 2614888103, 3248222580, 3835390401, 4022224774, 264347078, 604807628, 770255983, 1249150122, 1555081692, 1996064986, 2554220882, 2821834349, 2952996808, 3210313671, 3336571891, 3584528711, 113926993, 338241895, 666307205, 773529912, 1294757372, 1396182291, 1695183700, 1986661051, 2177026350, 2456956037, 2730485921, 2820302411, 3259730800, 3345764771, 3516065817, 3600352804, 4094571909, 275423344, 430227734, 506948616, 659060556, 883997877, 958139571, 1322822218, 1537002063, 1747873779, 1955562222, 2024104815, 2227730452, 2361852424, 2428436474, 2756734187, 3204031479, 3329325298] : List Int)) (o := 0) (cs := cA (Value.int .u32) ([1116352408, 1899447441, 3049323471, 3921009573, 961987163, 1508970993, 2453635748, 2870763221, 3624381080, 310598401, 607225278, 1426881987, 1925078388, 2162078206, 2614888103, 3248222580, 3835390401, 4022224774, 264347078, 604807628, 770255983, 1249150122, 1555081692, 1996064986, 2554220882, 2821834349, 2952996808, 3210313671, 3336571891, 3584528711, 113926993, 338241895, 666307205, 773529912, 1294757372, 1396182291, 1695183700, 1986661051, 2177026350, 2456956037, 2730485921, 2820302411, 3259730800, 3345764771, 3516065817, 3600352804, 4094571909, 275423344, 430227734, 506948616, 659060556, 883997877, 958139571, 1322822218, 1537002063, 1747873779, 1955562222, 2024104815, 2227730452, 2361852424, 2428436474, 2756734187, 3204031479, 3329325298] : List Int)) (ent_refl _) ((cA_length _ _).trans (by kernel_rfl)) (whole _ _ ((cA_length _ _).trans (by kernel_rfl)))) w hI
 have hI := hI.drop
 have e := someS h0
 subst e
 refine qK [0] (S' := [(0, pb b1)]) (by kernel_rfl) ?_
 exact post_ret (v := .agg (cA (Value.int .u32) ([1116352408, 1899447441, 3049323471, 3921009573, 961987163, 1508970993, 2453635748, 2870763221, 3624381080, 310598401, 607225278, 1426881987, 1925078388, 2162078206, 2614888103, 3248222580, 3835390401, 4022224774, 264347078, 604807628, 770255983, 1249150122, 1555081692, 1996064986, 2554220882, 2821834349, 2952996808, 3210313671, 3336571891, 3584528711, 113926993, 338241895, 666307205, 773529912, 1294757372, 1396182291, 1695183700, 1986661051, 2177026350, 2456956037, 2730485921, 2820302411, 3259730800, 3345764771, 3516065817, 3600352804, 4094571909, 275423344, 430227734, 506948616, 659060556, 883997877, 958139571, 1322822218, 1537002063, 1747873779, 1955562222, 2024104815, 2227730452, 2361852424, 2428436474, 2756734187, 3204031479, 3329325298] : List Int)).toArray) (fun a ha => RunRes.run (vs := [.agg (cA (Value.int .u32) ([1116352408, 1899447441, 3049323471, 3921009573, 961987163, 1508970993, 2453635748, 2870763221, 3624381080, 310598401, 607225278, 1426881987, 1925078388, 2162078206, 2614888103, 3248222580, 3835390401, 4022224774, 264347078, 604807628, 770255983, 1249150122, 1555081692, 1996064986, 2554220882, 2821834349, 2952996808, 3210313671, 3336571891, 3584528711, 113926993, 338241895, 666307205, 773529912, 1294757372, 1396182291, 1695183700, 1986661051, 2177026350, 2456956037, 2730485921, 2820302411, 3259730800, 3345764771, 3516065817, 3600352804, 4094571909, 275423344, 430227734, 506948616, 659060556, 883997877, 958139571, 1322822218, 1537002063, 1747873779, 1955562222, 2024104815, 2227730452, 2361852424, 2428436474, 2756734187, 3204031479, 3329325298] : List Int)).toArray]) (.cell (t := 0) (T := 92) (ad := ⟨b1, 0, none⟩) (by kernel_rfl) hL2 .nil) ha (by kernel_rfl)) ⟨rfl, (by kernel_rfl), hI⟩
/-- cenotaph/cenotaphref02.Pad -/
theorem c69 (w0 w : World) (Z : Hp) (A : HP) (hI : Inv w0 Z w A) (hT : Tabs Z) (a0 : ByteArray) (r : ByteArray) (h0 : ref02_Pad a0 = some r) :
  Calls prog 69 #[.string a0] w (fun e w' => e = .returned (.string r) ∧ Inv w0 Z w' A) := by
 have e4 := calls_intro (R := (fun e w' => e = .returned (.string r) ∧ Inv w0 Z w' A)) (w := w) (args := [.string a0]) (fn := Go.Proofs.Tryd.f69) 39 Go.Proofs.Tryd.func69 (by rfl) Go.Proofs.Tryd.ntmps69 (by kernel_rfl)
 refine e4 ?_
 clear e4
 unfold ref02_Pad at h0
 refine cQ ?_
 refine cR [0] (by kernel_rfl) ?_
 refine oP (r := []) [0] (S' := [(0, .string a0)]) (by kernel_rfl) ?_
 refine oD ?_
 refine qT ?_
 refine cQ ?_
 refine cR [0, 1, 2] (by kernel_rfl) ?_
 refine oP (r := [1, 2]) [0] (S' := [(0, .string a0), (7, .string a0)]) (by kernel_rfl) ?_
 obtain ⟨hg1, h0⟩ := guardS h0
 refine oC (Does.s2b (d := 8) (src := 9) (dst := 102) (s := a0) (by kernel_rfl) Go.Proofs.Tryd.underlying9 Go.Proofs.Tryd.underlying102 Go.Proofs.Tryd.underlying5 (Nat.le_trans hg1 (by decide)) hI ?_)
 intro A2 cp3 w hI
 refine oP (r := []) [2] (S' := [(0, .string a0), (3, .slice A2 ((byts a0).length) cp3)]) (by kernel_rfl) ?_
 refine oD ?_
 refine qT ?_
 refine cQ ?_
 refine cR [0, 1, 2, 3] (by kernel_rfl) ?_
 refine oP (r := [1, 2, 3]) [0] (S' := [(0, .string a0), (9, .slice A2 ((byts a0).length) cp3)]) (by kernel_rfl) ?_
 refine oC (Does.buildSlice (en := (cI .u8)) (d := 10) (n := 1) (T := 102) (ps := [(0, .int .u8 128)]) ([128] : List Int) (by kernel_rfl) Go.Proofs.Tryd.underlying102 ty5 (by kernel_rfl) (by kernel_rfl) (by kernel_rfl) (by kernel_rfl) (len_all (fun _ => rfl)) hI ?_)
 intro b4 w hI
 obtain ⟨hg5, h0⟩ := guardS h0
 have hI := hI.mono (pick2 _ _ _)
 refine oC (Does.append (d := 11) (t := 102) (tx := 102) (ty := 102) (ys := byts a0) (zs := ([128] : List Int)) (x := .slice (some ⟨b4, 0, none⟩) (([128] : List Int).length) 1) (by kernel_rfl) Go.Proofs.Tryd.underlying102 ty5 (by kernel_rfl) hI (src_own Go.Proofs.Tryd.underlying102 (hI.mono (pick2 _ _ _)) (one_flat _ (fun _ => rfl))) (ownS_facts (hI.mono (pick2 _ _ _))).2.2 (by unfold LIM at hg5; omega) hg5 ?_)
 intro A6 cp7 w hI
 refine oP (r := []) [3] (S' := [(0, .string a0), (3, .slice A6 (((byts a0) ++ ([128] : List Int)).length) cp7)]) (by kernel_rfl) ?_
 refine oD ?_
 refine qT ?_
 refine cQ ?_
 obtain ⟨r1, h1, h0⟩ := bindS h0
 refine CodT.meet1 (fun a w => ∃ (x8 : (List Int)) (A9 : Option Addr) (cp10 : Nat), x8 = r1 ∧ Fr 39 [(0, .string a0), (3, .slice A9 x8.length cp10)] a ∧ Inv w0 Z w (star (ownS 5 (cI .u8) 1 A9 cp10 x8) A)) ?_ ?_
 ·
  refine CodT.block ?_
  have hI := hI.mono (pick2 _ _ _)
  have hI := hI.drop
  refine (fun a ha => wp_loopN (fun k a w => ∃ (x11 : (List Int)) (A12 : Option Addr) (cp13 : Nat), ref02_Pad.l0 k x11 = some r1 ∧ Fr 39 [(0, .string a0), (3, .slice A12 x11.length cp13)] a ∧ Inv w0 Z w (star (ownS 5 (cI .u8) 1 A12 cp13 x11) A)) ?_ FU a w ⟨(byts a0) ++ ([128] : List Int), A6, cp7, h1, ha.keep [0, 3] (by kernel_rfl), hI⟩)
  clear h1 hI
  rintro k a w ⟨x11, A12, cp13, h1, ha, hI⟩
  rcases k with _ | k
  ·
   cases h1
  simp only [ref02_Pad.l0] at h1
  refine CodT.of ?_ ha
  refine cQ ?_
  refine cQ ?_
  refine cR [0, 1, 2, 3] (by kernel_rfl) ?_
  refine oP (r := []) [0, 1, 2, 3] (S' := [(0, .string a0), (3, .slice A12 x11.length cp13), (15, .bool (((x11.length : Int).tmod 64) != 56))]) (by kernel_rfl) ?_
  refine oD ?_
  refine qT ?_
  by_cases hb14 : (((x11.length : Int).tmod 64) != 56) = true
  ·
   rw [if_pos hb14] at h1
   refine CodT.yes' (b := ((x11.length : Int).tmod 64) != 56) (by kernel_rfl) hb14 ?_
   refine CodT.skip ?_
   refine qT ?_
   refine CodT.block ?_
   refine cR [0, 1, 2, 3] (by kernel_rfl) ?_
   refine oP (r := [1, 2, 3]) [0] (S' := [(0, .string a0), (16, .slice A12 x11.length cp13)]) (by kernel_rfl) ?_
   refine oC (Does.buildSlice (en := (cI .u8)) (d := 17) (n := 1) (T := 102) (ps := [(0, .int .u8 0)]) ([0] : List Int) (by kernel_rfl) Go.Proofs.Tryd.underlying102 ty5 (by kernel_rfl) (by kernel_rfl) (by kernel_rfl) (by kernel_rfl) (len_all (fun _ => rfl)) hI ?_)
   intro b15 w hI
   obtain ⟨hg16, h1⟩ := guardS h1
   have hI := hI.mono (pick2 _ _ _)
   refine oC (Does.append (d := 18) (t := 102) (tx := 102) (ty := 102) (ys := x11) (zs := ([0] : List Int)) (x := .slice (some ⟨b15, 0, none⟩) (([0] : List Int).length) 1) (by kernel_rfl) Go.Proofs.Tryd.underlying102 ty5 (by kernel_rfl) hI (src_own Go.Proofs.Tryd.underlying102 (hI.mono (pick2 _ _ _)) (one_flat _ (fun _ => rfl))) (ownS_facts (hI.mono (pick2 _ _ _))).2.2 (by unfold LIM at hg16; omega) hg16 ?_)
   intro A17 cp18 w hI
   refine oP (r := []) [3] (S' := [(0, .string a0), (3, .slice A17 ((x11 ++ ([0] : List Int)).length) cp18)]) (by kernel_rfl) ?_
   refine oD ?_
   refine Qn.block_normal ?_
   have hI := hI.mono (pick2 _ _ _)
   have hI := hI.drop
   exact Qn.thenJ fun a ha => ⟨k, Nat.lt_succ_self k, x11 ++ ([0] : List Int), A17, cp18, h1, ha.keep [0, 3] (by kernel_rfl), hI⟩
  ·
   rw [if_neg hb14] at h1
   refine CodT.no' (b := ((x11.length : Int).tmod 64) != 56) (by kernel_rfl) (by simpa using hb14) ?_
   refine CodT.exit ?_
   refine Qn.exit_then ?_
   refine Qn.exit_then ?_
   refine Qn.block ?_
   have e := someS h1
   subst e
   exact Qn.thenJ fun a ha => ⟨x11, A12, cp13, rfl, ha.keep [0, 3] (by kernel_rfl), hI⟩
 ·
  rintro a w ⟨x8, A9, cp10, rfl, ha, hI⟩
  try dsimp only at h0
  refine Qn.of ?_ ha
  refine qT ?_
  refine cQ ?_
  refine cR [0, 1, 2, 3, 4] (by kernel_rfl) ?_
  refine oP (r := []) [0, 1, 2, 3, 4] (S' := [(3, .slice A9 x8.length cp10), (4, .int .u64 (wu64 ((wu64 (a0.size : Int)) * 8)))]) (by kernel_rfl) ?_
  refine oD ?_
  refine qT ?_
  refine cQ ?_
  refine cR [0] (by kernel_rfl) ?_
  refine oP (r := []) [0] (S' := [(3, .slice A9 x8.length cp10), (4, .int .u64 (wu64 ((wu64 (a0.size : Int)) * 8))), (5, .slice none 0 0)]) (by kernel_rfl) ?_
  refine oD ?_
  refine qT ?_
  refine cQ ?_
  refine cQ ?_
  refine cR [0] (by kernel_rfl) ?_
  refine oP (r := []) [0] (S' := [(3, .slice A9 x8.length cp10), (4, .int .u64 (wu64 ((wu64 (a0.size : Int)) * 8))), (5, .slice none 0 0), (6, iv 0)]) (by kernel_rfl) ?_
  refine oD ?_
  refine qT ?_
  obtain ⟨r1, h1, h0⟩ := bindS h0
  refine CodT.meet1 (fun a w => ∃ (x19 : (List Int)) (A20 : Option Addr) (cp21 : Nat), x19 = r1 ∧ Fr 39 [(3, .slice A9 x8.length cp10), (5, .slice A20 x19.length cp21)] a ∧ Inv w0 Z w (star (ownS 5 (cI .u8) 1 A20 cp21 x19) (star (ownS 5 (cI .u8) 1 A9 cp10 x8) A))) ?_ ?_
  ·
   refine CodT.block ?_
   have hI := ownS_nil (α := Int) hI 5 (cI .u8) 1
   refine (fun a ha => wp_loopN (fun k a w => ∃ (x22 : Int) (x23 : (List Int)) (x26 : Int) (A24 : Option Addr) (cp25 : Nat), ref02_Pad.l1 k x22 x23 x26 = some r1 ∧ Fr 39 [(3, .slice A9 x8.length cp10), (4, .int .u64 x22), (5, .slice A24 x23.length cp25), (6, iv x26)] a ∧ Inv w0 Z w (star (ownS 5 (cI .u8) 1 A24 cp25 x23) (star (ownS 5 (cI .u8) 1 A9 cp10 x8) A))) ?_ FU a w ⟨wu64 ((wu64 (a0.size : Int)) * 8), ([] : List Int), 0, none, 0, h1, ha.keep [3, 4, 5, 6] (by kernel_rfl), hI⟩)
   clear h1 hI
   rintro k a w ⟨x22, x23, x26, A24, cp25, h1, ha, hI⟩
   rcases k with _ | k
   ·
    cases h1
   simp only [ref02_Pad.l1] at h1
   refine CodT.of ?_ ha
   refine cQ ?_
   refine cQ ?_
   refine cR [0, 1] (by kernel_rfl) ?_
   refine oP (r := []) [0, 1] (S' := [(3, .slice A9 x8.length cp10), (4, .int .u64 x22), (5, .slice A24 x23.length cp25), (6, iv x26), (24, .bool (decide (x26 < 8)))]) (by kernel_rfl) ?_
   refine oD ?_
   refine qT ?_
   by_cases hb27 : (decide (x26 < 8)) = true
   ·
    rw [if_pos hb27] at h1
    refine CodT.yes' (b := decide (x26 < 8)) (by kernel_rfl) hb27 ?_
    refine CodT.skip ?_
    refine qT ?_
    refine cQ ?_
    refine CodT.block ?_
    refine cQ ?_
    refine cR [0, 1, 2, 3, 4, 5, 6] (by kernel_rfl) ?_
    refine oP (r := [3, 4, 5, 6]) [0, 1, 2] (S' := [(3, .slice A9 x8.length cp10), (4, .int .u64 x22), (5, .slice A24 x23.length cp25), (6, iv x26), (29, .int .u8 (wu8 (x22.tmod 256)))]) (by kernel_rfl) ?_
    refine oC (Does.buildSlice (en := (cI .u8)) (d := 30) (n := 1) (T := 102) (ps := [(0, .int .u8 (wu8 (x22.tmod 256)))]) ([wu8 (x22.tmod 256)] : List Int) (by kernel_rfl) Go.Proofs.Tryd.underlying102 ty5 (by kernel_rfl) (by kernel_rfl) (by kernel_rfl) (by kernel_rfl) (len_all (fun _ => rfl)) hI ?_)
    intro b28 w hI
    refine oP (r := [5, 6]) [4] (S' := [(3, .slice A9 x8.length cp10), (4, .int .u64 x22), (6, iv x26), (30, .slice (some ⟨b28, 0, none⟩) (([wu8 (x22.tmod 256)] : List Int).length) 1), (31, .slice A24 x23.length cp25)]) (by kernel_rfl) ?_
    obtain ⟨hg29, h1⟩ := guardS h1
    refine oC (Does.append (d := 32) (t := 102) (tx := 102) (ty := 102) (ys := ([wu8 (x22.tmod 256)] : List Int)) (zs := x23) (x := .slice A24 x23.length cp25) (by kernel_rfl) Go.Proofs.Tryd.underlying102 ty5 (by kernel_rfl) hI (src_own Go.Proofs.Tryd.underlying102 (hI.mono (pick2 _ _ _)) (one_flat _ (fun _ => rfl))) (ownS_facts (hI.mono (pick2 _ _ _))).2.2 (by unfold LIM at hg29; omega) hg29 ?_)
    intro A30 cp31 w hI
    refine oP (r := []) [6] (S' := [(3, .slice A9 x8.length cp10), (4, .int .u64 x22), (5, .slice A30 ((([wu8 (x22.tmod 256)] : List Int) ++ x23).length) cp31), (6, iv x26)]) (by kernel_rfl) ?_
    refine oD ?_
    refine qT ?_
    refine cR [0, 1, 2] (by kernel_rfl) ?_
    refine oP (r := []) [0, 1, 2] (S' := [(3, .slice A9 x8.length cp10), (4, .int .u64 (wu64 (x22.tdiv 256))), (5, .slice A30 ((([wu8 (x22.tmod 256)] : List Int) ++ x23).length) cp31), (6, iv x26)]) (by kernel_rfl) ?_
    refine oD ?_
    refine Qn.block_normal ?_
    refine qT ?_
    refine cR [0, 1, 2] (by kernel_rfl) ?_
    refine oP (r := []) [0, 1, 2] (S' := [(3, .slice A9 x8.length cp10), (4, .int .u64 (wu64 (x22.tdiv 256))), (5, .slice A30 ((([wu8 (x22.tmod 256)] : List Int) ++ x23).length) cp31), (6, iv (wi64 (x26 + 1)))]) (by kernel_rfl) ?_
    refine oD ?_
    have hI := hI.mono (pick2 _ _ _)
    have hI := hI.drop
    exact Qn.thenJ fun a ha => ⟨k, Nat.lt_succ_self k, wu64 (x22.tdiv 256), ([wu8 (x22.tmod 256)] : List Int) ++ x23, wi64 (x26 + 1), A30, cp31, h1, ha.keep [3, 4, 5, 6] (by kernel_rfl), hI⟩
   ·
    rw [if_neg hb27] at h1
    refine CodT.no' (b := decide (x26 < 8)) (by kernel_rfl) (by simpa using hb27) ?_
    refine CodT.exit ?_
    refine Qn.exit_then ?_
    refine Qn.exit_then ?_
    refine Qn.block ?_
    have e := someS h1
    subst e
    exact Qn.thenJ fun a ha => ⟨x23, A24, cp25, rfl, ha.keep [3, 5] (by kernel_rfl), hI⟩
  ·
   rintro a w ⟨x19, A20, cp21, rfl, ha, hI⟩
   try dsimp only at h0
   refine Qn.of ?_ ha
   refine qT ?_
   refine cQ ?_
   refine cR [0, 1, 2, 3, 4] (by kernel_rfl) ?_
   refine oP (r := [2, 3, 4]) [0, 1] (S' := [(35, .slice A9 x8.length cp10), (36, .slice A20 x19.length cp21)]) (by kernel_rfl) ?_
   obtain ⟨hg32, h0⟩ := guardS h0
   have hI := hI.mono (pick2 _ _ _)
   refine oC (Does.append (d := 37) (t := 102) (tx := 102) (ty := 102) (ys := x8) (zs := x19) (x := .slice A20 x19.length cp21) (by kernel_rfl) Go.Proofs.Tryd.underlying102 ty5 (by kernel_rfl) hI (src_own Go.Proofs.Tryd.underlying102 (hI.mono (pick2 _ _ _)) (one_flat _ (fun _ => rfl))) (ownS_facts (hI.mono (pick2 _ _ _))).2.2 (by unfold LIM at hg32; omega) hg32 ?_)
   intro A33 cp34 w hI
   refine oC (Does.b2sOwn (d := 38) (src := 102) (dst := 9) (xs := x8 ++ x19) (by kernel_rfl) Go.Proofs.Tryd.underlying102 Go.Proofs.Tryd.underlying5 Go.Proofs.Tryd.underlying9 hI ?_)
   refine oP (r := []) [4] (S' := [(2, .string (strOfNums (x8 ++ x19)))]) (by kernel_rfl) ?_
   refine oD ?_
   refine qT ?_
   refine CodT.ret ?_
   have hI := hI.drop
   have hI := hI.drop
   have e := someS h0
   subst e
   refine qK [2] (S' := [(2, .string (strOfNums (x8 ++ x19)))]) (by kernel_rfl) ?_
   exact post_ret (v := .string (strOfNums (x8 ++ x19))) (fun a ha => RunRes.run (vs := [.string (strOfNums (x8 ++ x19))]) (.tmp (t := 2) (by kernel_rfl) .nil) ha (by kernel_rfl)) ⟨rfl, hI⟩
/-- cenotaph/cenotaphref02.right -/
theorem c70 (w0 w : World) (Z : Hp) (A : HP) (hI : Inv w0 Z w A) (hT : Tabs Z) (a0 : Int) (a1 : Int) (r : Int) (h0 : ref02_right a0 a1 = some r) :
  Calls prog 70 #[.int .u32 a0, iv a1] w (fun e w' => e = .returned (.int .u32 r) ∧ Inv w0 Z w' A) := by
 have e4 := calls_intro (R := (fun e w' => e = .returned (.int .u32 r) ∧ Inv w0 Z w' A)) (w := w) (args := [.int .u32 a0, iv a1]) (fn := Go.Proofs.Tryd.f70) 21 Go.Proofs.Tryd.func70 (by rfl) Go.Proofs.Tryd.ntmps70 (by kernel_rfl)
 refine e4 ?_
 clear e4
 unfold ref02_right at h0
 refine cQ ?_
 refine cR [0] (by kernel_rfl) ?_
 refine oP (r := []) [0] (S' := [(0, .int .u32 a0), (1, iv a1)]) (by kernel_rfl) ?_
 refine oD ?_
 refine qT ?_
 refine cQ ?_
 refine cQ ?_
 refine cR [0] (by kernel_rfl) ?_
 refine oP (r := []) [0] (S' := [(0, .int .u32 a0), (1, iv a1), (5, iv 0)]) (by kernel_rfl) ?_
 refine oD ?_
 refine qT ?_
 obtain ⟨r1, h1, h0⟩ := bindS h0
 refine CodT.meet1 (fun a w => ∃ (x1 : Int), x1 = r1 ∧ Fr 21 [(0, .int .u32 x1)] a ∧ Inv w0 Z w A) ?_ ?_
 ·
  refine CodT.block ?_
  refine (fun a ha => wp_loopN (fun k a w => ∃ (x2 : Int) (x3 : Int), ref02_right.l0 a1 k x2 x3 = some r1 ∧ Fr 21 [(0, .int .u32 x2), (1, iv a1), (5, iv x3)] a ∧ Inv w0 Z w A) ?_ FU a w ⟨a0, 0, h1, ha.keep [0, 1, 5] (by kernel_rfl), hI⟩)
  clear h1 hI
  rintro k a w ⟨x2, x3, h1, ha, hI⟩
  rcases k with _ | k
  ·
   cases h1
  simp only [ref02_right.l0] at h1
  refine CodT.of ?_ ha
  refine cQ ?_
  refine cQ ?_
  refine cR [0, 1, 2] (by kernel_rfl) ?_
  refine oP (r := []) [0, 1, 2] (S' := [(0, .int .u32 x2), (1, iv a1), (5, iv x3), (9, .bool (decide (x3 < a1)))]) (by kernel_rfl) ?_
  refine oD ?_
  refine qT ?_
  by_cases hb4 : (decide (x3 < a1)) = true
  ·
   rw [if_pos hb4] at h1
   refine CodT.yes' (b := decide (x3 < a1)) (by kernel_rfl) hb4 ?_
   refine CodT.skip ?_
   refine qT ?_
   obtain ⟨r2, h2, h1⟩ := bindS h1
   refine CodT.meet (fun a w => ∃ (x5 : Int), x5 = r2 ∧ Fr 21 [(0, .int .u32 x5), (1, iv a1), (5, iv x3)] a ∧ Inv w0 Z w A) ?_ ?_
   ·
    refine CodT.block ?_
    refine cQ ?_
    refine cR [0, 1, 2] (by kernel_rfl) ?_
    refine oP (r := []) [0, 1, 2] (S' := [(0, .int .u32 x2), (1, iv a1), (5, iv x3), (6, .int .u32 (x2.tmod 2))]) (by kernel_rfl) ?_
    refine oD ?_
    refine qT ?_
    refine cQ ?_
    refine cR [0, 1, 2] (by kernel_rfl) ?_
    refine oP (r := []) [0, 1, 2] (S' := [(0, .int .u32 (wu32 (x2.tdiv 2))), (1, iv a1), (5, iv x3), (6, .int .u32 (x2.tmod 2))]) (by kernel_rfl) ?_
    refine oD ?_
    refine qT ?_
    refine cQ ?_
    refine cR [0, 1] (by kernel_rfl) ?_
    refine oP (r := []) [0, 1] (S' := [(0, .int .u32 (wu32 (x2.tdiv 2))), (1, iv a1), (5, iv x3), (17, .bool ((x2.tmod 2) == 1))]) (by kernel_rfl) ?_
    refine oD ?_
    refine qT ?_
    by_cases hb6 : ((x2.tmod 2) == 1) = true
    ·
     rw [if_pos hb6] at h2
     refine CodT.yes' (b := (x2.tmod 2) == 1) (by kernel_rfl) hb6 ?_
     refine cR [0, 1, 2] (by kernel_rfl) ?_
     refine oP (r := []) [0, 1, 2] (S' := [(0, .int .u32 (wu32 ((wu32 (x2.tdiv 2)) + 2147483648))), (1, iv a1), (5, iv x3)]) (by kernel_rfl) ?_
     refine oD ?_
     refine Qn.block_normal ?_
     have e := someS h2
     subst e
     exact Qn.thenJ fun a ha => ⟨wu32 ((wu32 (x2.tdiv 2)) + 2147483648), rfl, ha.keep [0, 1, 5] (by kernel_rfl), hI⟩
    ·
     rw [if_neg hb6] at h2
     refine CodT.no' (b := (x2.tmod 2) == 1) (by kernel_rfl) (by simpa using hb6) ?_
     refine CodT.skip ?_
     refine Qn.block_normal ?_
     have e := someS h2
     subst e
     exact Qn.thenJ fun a ha => ⟨wu32 (x2.tdiv 2), rfl, ha.keep [0, 1, 5] (by kernel_rfl), hI⟩
   ·
    rintro a w ⟨x5, rfl, ha, hI⟩
    try dsimp only at h1
    refine CodT.of ?_ ha
    refine cR [0, 1, 2] (by kernel_rfl) ?_
    refine oP (r := []) [0, 1, 2] (S' := [(0, .int .u32 x5), (1, iv a1), (5, iv (wi64 (x3 + 1)))]) (by kernel_rfl) ?_
    refine oD ?_
    exact Qn.thenJ fun a ha => ⟨k, Nat.lt_succ_self k, x5, wi64 (x3 + 1), h1, ha.keep [0, 1, 5] (by kernel_rfl), hI⟩
  ·
   rw [if_neg hb4] at h1
   refine CodT.no' (b := decide (x3 < a1)) (by kernel_rfl) (by simpa using hb4) ?_
   refine CodT.exit ?_
   refine Qn.exit_then ?_
   refine Qn.exit_then ?_
   refine Qn.block ?_
   have e := someS h1
   subst e
   exact Qn.thenJ fun a ha => ⟨x2, rfl, ha.keep [0] (by kernel_rfl), hI⟩
 ·
  rintro a w ⟨x1, rfl, ha, hI⟩
  try dsimp only at h0
  refine Qn.of ?_ ha
  refine qT ?_
  refine cQ ?_
  refine cR [0, 1] (by kernel_rfl) ?_
  refine oP (r := []) [0, 1] (S' := [(4, .int .u32 x1)]) (by kernel_rfl) ?_
  refine oD ?_
  refine qT ?_
  refine CodT.ret ?_
  have e := someS h0
  subst e
  refine qK [4] (S' := [(4, .int .u32 x1)]) (by kernel_rfl) ?_
  exact post_ret (v := .int .u32 x1) (fun a ha => RunRes.run (vs := [.int .u32 x1]) (.tmp (t := 4) (by kernel_rfl) .nil) ha (by kernel_rfl)) ⟨rfl, hI⟩
/-- cenotaph/cenotaphref02.shift -/
theorem c71 (w0 w : World) (Z : Hp) (A : HP) (hI : Inv w0 Z w A) (hT : Tabs Z) (a0 : Int) (a1 : Int) (r : Int) (h0 : ref02_shift a0 a1 = some r) :
  Calls prog 71 #[.int .u32 a0, iv a1] w (fun e w' => e = .returned (.int .u32 r) ∧ Inv w0 Z w' A) := by
 have e4 := calls_intro (R := (fun e w' => e = .returned (.int .u32 r) ∧ Inv w0 Z w' A)) (w := w) (args := [.int .u32 a0, iv a1]) (fn := Go.Proofs.Tryd.f71) 14 Go.Proofs.Tryd.func71 (by rfl) Go.Proofs.Tryd.ntmps71 (by kernel_rfl)
 refine e4 ?_
 clear e4
 unfold ref02_shift at h0
 refine cQ ?_
 refine cR [0] (by kernel_rfl) ?_
 refine oP (r := []) [0] (S' := [(0, .int .u32 a0), (1, iv a1)]) (by kernel_rfl) ?_
 refine oD ?_
 refine qT ?_
 refine cQ ?_
 refine cQ ?_
 refine cR [0] (by kernel_rfl) ?_
 refine oP (r := []) [0] (S' := [(0, .int .u32 a0), (1, iv a1), (5, iv 0)]) (by kernel_rfl) ?_
 refine oD ?_
 refine qT ?_
 obtain ⟨r1, h1, h0⟩ := bindS h0
 refine CodT.meet1 (fun a w => ∃ (x1 : Int), x1 = r1 ∧ Fr 14 [(0, .int .u32 x1)] a ∧ Inv w0 Z w A) ?_ ?_
 ·
  refine CodT.block ?_
  refine (fun a ha => wp_loopN (fun k a w => ∃ (x2 : Int) (x3 : Int), ref02_shift.l0 a1 k x2 x3 = some r1 ∧ Fr 14 [(0, .int .u32 x2), (1, iv a1), (5, iv x3)] a ∧ Inv w0 Z w A) ?_ FU a w ⟨a0, 0, h1, ha.keep [0, 1, 5] (by kernel_rfl), hI⟩)
  clear h1 hI
  rintro k a w ⟨x2, x3, h1, ha, hI⟩
  rcases k with _ | k
  ·
   cases h1
  simp only [ref02_shift.l0] at h1
  refine CodT.of ?_ ha
  refine cQ ?_
  refine cQ ?_
  refine cR [0, 1, 2] (by kernel_rfl) ?_
  refine oP (r := []) [0, 1, 2] (S' := [(0, .int .u32 x2), (1, iv a1), (5, iv x3), (8, .bool (decide (x3 < a1)))]) (by kernel_rfl) ?_
  refine oD ?_
  refine qT ?_
  by_cases hb4 : (decide (x3 < a1)) = true
  ·
   rw [if_pos hb4] at h1
   refine CodT.yes' (b := decide (x3 < a1)) (by kernel_rfl) hb4 ?_
   refine CodT.skip ?_
   refine qT ?_
   refine cQ ?_
   refine CodT.block ?_
   refine cR [0, 1, 2] (by kernel_rfl) ?_
   refine oP (r := []) [0, 1, 2] (S' := [(0, .int .u32 (wu32 (x2.tdiv 2))), (1, iv a1), (5, iv x3)]) (by kernel_rfl) ?_
   refine oD ?_
   refine Qn.block_normal ?_
   refine qT ?_
   refine cR [0, 1, 2] (by kernel_rfl) ?_
   refine oP (r := []) [0, 1, 2] (S' := [(0, .int .u32 (wu32 (x2.tdiv 2))), (1, iv a1), (5, iv (wi64 (x3 + 1)))]) (by kernel_rfl) ?_
   refine oD ?_
   exact Qn.thenJ fun a ha => ⟨k, Nat.lt_succ_self k, wu32 (x2.tdiv 2), wi64 (x3 + 1), h1, ha.keep [0, 1, 5] (by kernel_rfl), hI⟩
  ·
   rw [if_neg hb4] at h1
   refine CodT.no' (b := decide (x3 < a1)) (by kernel_rfl) (by simpa using hb4) ?_
   refine CodT.exit ?_
   refine Qn.exit_then ?_
   refine Qn.exit_then ?_
   refine Qn.block ?_
   have e := someS h1
   subst e
   exact Qn.thenJ fun a ha => ⟨x2, rfl, ha.keep [0] (by kernel_rfl), hI⟩
 ·
  rintro a w ⟨x1, rfl, ha, hI⟩
  try dsimp only at h0
  refine Qn.of ?_ ha
  refine qT ?_
  refine cQ ?_
  refine cR [0, 1] (by kernel_rfl) ?_
  refine oP (r := []) [0, 1] (S' := [(4, .int .u32 x1)]) (by kernel_rfl) ?_
  refine oD ?_
  refine qT ?_
  refine CodT.ret ?_
  have e := someS h0
  subst e
  refine qK [4] (S' := [(4, .int .u32 x1)]) (by kernel_rfl) ?_
  exact post_ret (v := .int .u32 x1) (fun a ha => RunRes.run (vs := [.int .u32 x1]) (.tmp (t := 4) (by kernel_rfl) .nil) ha (by kernel_rfl)) ⟨rfl, hI⟩
/-- cenotaph/cenotaphref02.Of -/
theorem c52 (w0 w : World) (Z : Hp) (A : HP) (hI : Inv w0 Z w A) (hT : Tabs Z) (a0 : ByteArray) (r : (List Int)) (h0 : ref02_Of a0 = some r) :
  Calls prog 52 #[.string a0] w (fun e w' => e = .returned (.agg (cA (Value.int .u8) r).toArray) ∧ r.length = 32 ∧ Inv w0 Z w' A) := by
 have e4 := calls_intro (R := (fun e w' => e = .returned (.agg (cA (Value.int .u8) r).toArray) ∧ r.length = 32 ∧ Inv w0 Z w' A)) (w := w) (args := [.string a0]) (fn := Go.Proofs.Tryd.f52) 216 Go.Proofs.Tryd.func52 (by rfl) Go.Proofs.Tryd.ntmps52 (by kernel_rfl)
 refine e4 ?_
 clear e4
 unfold ref02_Of at h0
 refine cQ ?_
 refine cR [0] (by kernel_rfl) ?_
 refine oC (Does.allocL (d := 2) (T := 51) (cA (Value.int .u8) (List.replicate 32 (0 : Int))) (by kernel_rfl) ty51 hI (by kernel_rfl) ?_)
 intro b1 w hI
 refine oD ?_
 refine qT ?_
 refine cQ ?_
 refine cR [0, 1, 2] (by kernel_rfl) ?_
 obtain ⟨y3, hc2, h0⟩ := bindS h0
 try dsimp only at h0
 refine oC (Does.call (d := some 24) (n := 67) (vs := []) (by kernel_rfl) en67 (c67 w0 w _ _ hI hT _ hc2) ?_)
 rintro e w ⟨rfl, hl4, hI⟩
 refine ⟨_, rfl, ?_⟩
 refine oC (Does.allocL (d := 3) (T := 90) (cA (Value.int .u32) (List.replicate 8 (0 : Int))) (by kernel_rfl) ty90 hI (by kernel_rfl) ?_)
 intro b5 w hI
 refine oC (Does.storeAll (T := 90) (b := b5) (n := 8) (xs := (List.replicate 8 (0 : Int))) (ys := y3) (by kernel_rfl) ty90 hI (fun _ => rfl) (by kernel_rfl) hl4 ?_)
 intro w hI
 refine oD ?_
 refine qT ?_
 refine cQ ?_
 refine cR [0, 1, 2] (by kernel_rfl) ?_
 obtain ⟨y7, hc6, h0⟩ := bindS h0
 try dsimp only at h0
 refine oC (Does.call (d := some 25) (n := 68) (vs := []) (by kernel_rfl) en68 (c68 w0 w _ _ hI hT _ hc6) ?_)
 rintro e w ⟨rfl, hl8, hI⟩
 refine ⟨_, rfl, ?_⟩
 refine oC (Does.allocL (d := 4) (T := 92) (cA (Value.int .u32) (List.replicate 64 (0 : Int))) (by kernel_rfl) ty92 hI (by kernel_rfl) ?_)
 intro b9 w hI
 refine oC (Does.storeAll (T := 92) (b := b9) (n := 64) (xs := (List.replicate 64 (0 : Int))) (ys := y7) (by kernel_rfl) ty92 hI (fun _ => rfl) (by kernel_rfl) hl8 ?_)
 intro w hI
 refine oD ?_
 refine qT ?_
 refine cQ ?_
 refine cR [0, 1, 2] (by kernel_rfl) ?_
 refine oP (r := [1, 2]) [0] (S' := [(2, pb b1), (3, pb b5), (4, pb b9), (26, .string a0)]) (by kernel_rfl) ?_
 obtain ⟨y11, hc10, h0⟩ := bindS h0
 try dsimp only at h0
 refine oC (Does.call (d := some 27) (n := 69) (vs := [.string a0]) (by kernel_rfl) en69 (c69 w0 w _ _ hI hT a0 _ hc10) ?_)
 rintro e w ⟨rfl, hI⟩
 refine ⟨_, rfl, ?_⟩
 refine oP (r := []) [2] (S' := [(2, pb b1), (3, pb b5), (4, pb b9), (5, .string y11)]) (by kernel_rfl) ?_
 refine oD ?_
 refine qT ?_
 refine cQ ?_
 refine cQ ?_
 refine cR [0] (by kernel_rfl) ?_
 refine oP (r := []) [0] (S' := [(2, pb b1), (3, pb b5), (4, pb b9), (5, .string y11), (6, iv 0)]) (by kernel_rfl) ?_
 refine oD ?_
 refine qT ?_
 obtain ⟨r1, h1, h0⟩ := bindS h0
 refine CodT.meet1 (fun a w => ∃ (x12 : (List Int)), x12 = r1 ∧ Fr 216 [(2, pb b1), (3, pb b5)] a ∧ Inv w0 Z w (star (pt b5 (.cells (cA (Value.int .u32) x12).toArray 90 (0, 0))) (star (pt b1 (.cells (cA (Value.int .u8) (List.replicate 32 (0 : Int))).toArray 51 (0, 0))) A)) ∧ x12.length = 8) ?_ ?_
 ·
  refine CodT.block ?_
  refine (fun a ha => wp_loopN (fun k a w => ∃ (x14 : Int) (x15 : (List Int)), ref02_Of.l0 y11 y7 k x14 x15 = some r1 ∧ Fr 216 [(2, pb b1), (3, pb b5), (4, pb b9), (5, .string y11), (6, iv x14)] a ∧ Inv w0 Z w (star (pt b9 (.cells (cA (Value.int .u32) y7).toArray 92 (0, 0))) (star (pt b5 (.cells (cA (Value.int .u32) x15).toArray 90 (0, 0))) (star (pt b1 (.cells (cA (Value.int .u8) (List.replicate 32 (0 : Int))).toArray 51 (0, 0))) A))) ∧ x15.length = 8) ?_ FU a w ⟨0, y3, h1, ha.keep [2, 3, 4, 5, 6] (by kernel_rfl), hI, hl4⟩)
  clear h1 hI
  rintro k a w ⟨x14, x15, h1, ha, hI, hl16⟩
  rcases k with _ | k
  ·
   cases h1
  simp only [ref02_Of.l0] at h1
  refine CodT.of ?_ ha
  refine cQ ?_
  refine cQ ?_
  refine cR [0, 1, 2, 3] (by kernel_rfl) ?_
  refine oP (r := []) [0, 1, 2, 3] (S' := [(2, pb b1), (3, pb b5), (4, pb b9), (5, .string y11), (6, iv x14), (31, .bool (decide (x14 < (y11.size : Int))))]) (by kernel_rfl) ?_
  refine oD ?_
  refine qT ?_
  by_cases hb17 : (decide (x14 < (y11.size : Int))) = true
  ·
   rw [if_pos hb17] at h1
   refine CodT.yes' (b := decide (x14 < (y11.size : Int))) (by kernel_rfl) hb17 ?_
   refine CodT.skip ?_
   refine qT ?_
   refine cQ ?_
   refine CodT.block ?_
   refine cQ ?_
   refine cR [0] (by kernel_rfl) ?_
   refine oC (Does.allocL (d := 7) (T := 92) (cA (Value.int .u32) (List.replicate 64 (0 : Int))) (by kernel_rfl) ty92 hI (by kernel_rfl) ?_)
   intro b18 w hI
   refine oD ?_
   refine qT ?_
   refine cQ ?_
   refine cQ ?_
   refine cR [0] (by kernel_rfl) ?_
   refine oP (r := []) [0] (S' := [(2, pb b1), (3, pb b5), (4, pb b9), (5, .string y11), (6, iv x14), (7, pb b18), (8, iv 0)]) (by kernel_rfl) ?_
   refine oD ?_
   refine qT ?_
   obtain ⟨r2, h2, h1⟩ := bindS h1
   refine CodT.meet1 (fun a w => ∃ (x19 : (List Int)), x19 = r2 ∧ Fr 216 [(2, pb b1), (3, pb b5), (4, pb b9), (5, .string y11), (6, iv x14), (7, pb b18)] a ∧ Inv w0 Z w (star (pt b18 (.cells (cA (Value.int .u32) x19).toArray 92 (0, 0))) (star (pt b9 (.cells (cA (Value.int .u32) y7).toArray 92 (0, 0))) (star (pt b5 (.cells (cA (Value.int .u32) x15).toArray 90 (0, 0))) (star (pt b1 (.cells (cA (Value.int .u8) (List.replicate 32 (0 : Int))).toArray 51 (0, 0))) A)))) ∧ x19.length = 64) ?_ ?_
   ·
    refine CodT.block ?_
    refine (fun a ha => wp_loopN (fun k a w => ∃ (x21 : Int) (x22 : (List Int)), ref02_Of.l1 x14 y11 k x21 x22 = some r2 ∧ Fr 216 [(2, pb b1), (3, pb b5), (4, pb b9), (5, .string y11), (6, iv x14), (7, pb b18), (8, iv x21)] a ∧ Inv w0 Z w (star (pt b18 (.cells (cA (Value.int .u32) x22).toArray 92 (0, 0))) (star (pt b9 (.cells (cA (Value.int .u32) y7).toArray 92 (0, 0))) (star (pt b5 (.cells (cA (Value.int .u32) x15).toArray 90 (0, 0))) (star (pt b1 (.cells (cA (Value.int .u8) (List.replicate 32 (0 : Int))).toArray 51 (0, 0))) A)))) ∧ x22.length = 64) ?_ FU a w ⟨0, (List.replicate 64 (0 : Int)), h2, ha.keep [2, 3, 4, 5, 6, 7, 8] (by kernel_rfl), hI, (by kernel_rfl)⟩)
    clear h2 hI
    rintro k a w ⟨x21, x22, h2, ha, hI, hl23⟩
    rcases k with _ | k
    ·
     cases h2
    simp only [ref02_Of.l1] at h2
    refine CodT.of ?_ ha
    refine cQ ?_
    refine cQ ?_
    refine cR [0, 1] (by kernel_rfl) ?_
    refine oP (r := []) [0, 1] (S' := [(2, pb b1), (3, pb b5), (4, pb b9), (5, .string y11), (6, iv x14), (7, pb b18), (8, iv x21), (35, .bool (decide (x21 < 64)))]) (by kernel_rfl) ?_
    refine oD ?_
    refine qT ?_
    by_cases hb24 : (decide (x21 < 64)) = true
    ·
     rw [if_pos hb24] at h2
     refine CodT.yes' (b := decide (x21 < 64)) (by kernel_rfl) hb24 ?_
     refine CodT.skip ?_
     refine qT ?_
     obtain ⟨r3, h3, h2⟩ := bindS h2
     refine CodT.meet (fun a w => ∃ (x25 : (List Int)), x25 = r3 ∧ Fr 216 [(2, pb b1), (3, pb b5), (4, pb b9), (5, .string y11), (6, iv x14), (7, pb b18), (8, iv x21)] a ∧ Inv w0 Z w (star (pt b18 (.cells (cA (Value.int .u32) x25).toArray 92 (0, 0))) (star (pt b9 (.cells (cA (Value.int .u32) y7).toArray 92 (0, 0))) (star (pt b5 (.cells (cA (Value.int .u32) x15).toArray 90 (0, 0))) (star (pt b1 (.cells (cA (Value.int .u8) (List.replicate 32 (0 : Int))).toArray 51 (0, 0))) A)))) ∧ x25.length = 64) ?_ ?_
     ·
      refine CodT.block ?_
      refine cQ ?_
      refine cQ ?_
      refine cR [0, 1] (by kernel_rfl) ?_
      refine oP (r := []) [0, 1] (S' := [(2, pb b1), (3, pb b5), (4, pb b9), (5, .string y11), (6, iv x14), (7, pb b18), (8, iv x21), (39, .bool (decide (x21 < 16)))]) (by kernel_rfl) ?_
      refine oD ?_
      refine qT ?_
      by_cases hb27 : (decide (x21 < 16)) = true
      ·
       rw [if_pos hb27] at h3
       refine CodT.yes' (b := decide (x21 < 16)) (by kernel_rfl) hb27 ?_
       refine cQ ?_
       refine cQ ?_
       refine cR [0] (by kernel_rfl) ?_
       refine oP (r := []) [0] (S' := [(2, pb b1), (3, pb b5), (4, pb b9), (5, .string y11), (6, iv x14), (7, pb b18), (8, iv x21), (9, iv 0)]) (by kernel_rfl) ?_
       refine oD ?_
       refine qT ?_
       obtain ⟨r4, h4, h3⟩ := bindS h3
       refine CodT.meet1 (fun a w => ∃ (x28 : (List Int)), x28 = r4 ∧ Fr 216 [(2, pb b1), (3, pb b5), (4, pb b9), (5, .string y11), (6, iv x14), (7, pb b18), (8, iv x21)] a ∧ Inv w0 Z w (star (pt b18 (.cells (cA (Value.int .u32) x28).toArray 92 (0, 0))) (star (pt b9 (.cells (cA (Value.int .u32) y7).toArray 92 (0, 0))) (star (pt b5 (.cells (cA (Value.int .u32) x15).toArray 90 (0, 0))) (star (pt b1 (.cells (cA (Value.int .u8) (List.replicate 32 (0 : Int))).toArray 51 (0, 0))) A)))) ∧ x28.length = 64) ?_ ?_
       ·
        refine CodT.block ?_
        refine (fun a ha => wp_loopN (fun k a w => ∃ (x30 : Int) (x31 : (List Int)), ref02_Of.l2 x21 x14 y11 k x30 x31 = some r4 ∧ Fr 216 [(2, pb b1), (3, pb b5), (4, pb b9), (5, .string y11), (6, iv x14), (7, pb b18), (8, iv x21), (9, iv x30)] a ∧ Inv w0 Z w (star (pt b18 (.cells (cA (Value.int .u32) x31).toArray 92 (0, 0))) (star (pt b9 (.cells (cA (Value.int .u32) y7).toArray 92 (0, 0))) (star (pt b5 (.cells (cA (Value.int .u32) x15).toArray 90 (0, 0))) (star (pt b1 (.cells (cA (Value.int .u8) (List.replicate 32 (0 : Int))).toArray 51 (0, 0))) A)))) ∧ x31.length = 64) ?_ FU a w ⟨0, x22, h4, ha.keep [2, 3, 4, 5, 6, 7, 8, 9] (by kernel_rfl), hI, hl23⟩)
        clear h4 hI
        rintro k a w ⟨x30, x31, h4, ha, hI, hl32⟩
        rcases k with _ | k
        ·
         cases h4
        simp only [ref02_Of.l2] at h4
        refine CodT.of ?_ ha
        refine cQ ?_
        refine cQ ?_
        refine cR [0, 1] (by kernel_rfl) ?_
        refine oP (r := []) [0, 1] (S' := [(2, pb b1), (3, pb b5), (4, pb b9), (5, .string y11), (6, iv x14), (7, pb b18), (8, iv x21), (9, iv x30), (41, .bool (decide (x30 < 4)))]) (by kernel_rfl) ?_
        refine oD ?_
        refine qT ?_
        by_cases hb33 : (decide (x30 < 4)) = true
        ·
         rw [if_pos hb33] at h4
         refine CodT.yes' (b := decide (x30 < 4)) (by kernel_rfl) hb33 ?_
         refine CodT.skip ?_
         refine qT ?_
         refine cQ ?_
         refine CodT.block ?_
         refine CodT.drawI (n := 17) [16] (by kernel_rfl) (by kernel_rfl) hI ?_
         intro w hI
         refine GmT.p' 0 44 (iv x21) (by kernel_rfl) (by kernel_rfl) ?_
         refine GmT.p' 1 45 (iv x21) (by kernel_rfl) (by kernel_rfl) ?_
         refine GmT.p' 5 49 (.string y11) (by kernel_rfl) (by kernel_rfl) ?_
         refine GmT.p' 6 50 (iv x14) (by kernel_rfl) (by kernel_rfl) ?_
         refine GmT.p' 7 51 (iv x21) (by kernel_rfl) (by kernel_rfl) ?_
         refine GmT.p' 8 52 (iv (wi64 (4 * x21))) (by kernel_rfl) (by kernel_rfl) ?_
         refine GmT.p' 9 53 (iv (wi64 (x14 + (wi64 (4 * x21))))) (by kernel_rfl) (by kernel_rfl) ?_
         refine GmT.p' 10 54 (iv x30) (by kernel_rfl) (by kernel_rfl) ?_
         refine GmT.p' 11 55 (iv (wi64 ((wi64 (x14 + (wi64 (4 * x21)))) + x30))) (by kernel_rfl) (by kernel_rfl) ?_
         obtain ⟨hg34, h4⟩ := guardS h4
         refine GmT.r (i := 2) 2 (by kernel_rfl) (by kernel_rfl) (Yl.indexArr (d := 46) (T := 92) (k := .i64) (j := x21) (g := b18) (o := 0) (by kernel_rfl) Go.Proofs.Tryd.underlying92 ty89 hg34.1 hg34.2) hI ?_
         refine GmT.r (i := 3) 2 (by kernel_rfl) (by kernel_rfl) (Yl.load (d := 47) (T := 89) (v := .int .u32 (gt x31 x21)) (by kernel_rfl) (ldB ty89 (l := cA (Value.int .u32) x31) (o := 0 + x21.toNat * 1) (v := .int .u32 (gt x31 x21)) (ent_refl _) (arr_get _ _ hg34.1 (by have := And.intro hl32 hg34.2; omega)))) hI ?_
         refine GmT.p' 4 48 (.int .u32 (wu32 ((gt x31 x21) * 256))) (by kernel_rfl) (by kernel_rfl) ?_
         obtain ⟨hg35, h4⟩ := guardS h4
         refine GmT.r (i := 12) 2 (by kernel_rfl) (by kernel_rfl) (Yl.indexStr (d := 56) (T := 9) (k := .i64) (j := wi64 ((wi64 (x14 + (wi64 (4 * x21)))) + x30)) (s := y11) (by kernel_rfl) Go.Proofs.Tryd.underlying9 hg35.1 hg35.2) hI ?_
         refine GmT.p' 13 57 (.int .u32 (wu32 (bt y11 (wi64 ((wi64 (x14 + (wi64 (4 * x21)))) + x30))))) (by kernel_rfl) (by kernel_rfl) ?_
         refine GmT.p' 14 58 (.int .u32 (wu32 ((wu32 ((gt x31 x21) * 256)) + (wu32 (bt y11 (wi64 ((wi64 (x14 + (wi64 (4 * x21)))) + x30))))))) (by kernel_rfl) (by kernel_rfl) ?_
         obtain ⟨hg36, h4⟩ := guardS h4
         refine GmT.r (i := 15) 2 (by kernel_rfl) (by kernel_rfl) (Yl.indexArr (d := 59) (T := 92) (k := .i64) (j := x21) (g := b18) (o := 0) (by kernel_rfl) Go.Proofs.Tryd.underlying92 ty89 hg36.1 hg36.2) hI ?_
         refine GmT.o (i := 16) (by kernel_rfl) (Does.storeArr (e := (Value.int .u32)) (xs := x31) (u := wu32 ((wu32 ((gt x31 x21) * 256)) + (wu32 (bt y11 (wi64 ((wi64 (x14 + (wi64 (4 * x21)))) + x30)))))) (T := 89) (b := b18) (j := x21) (by kernel_rfl) ty89 hI (by kernel_rfl) (by kernel_rfl) hg36.1 (by have := And.intro hl32 hg36.2; omega) ?_)
         intro w hI
         refine ⟨fun h => absurd h (by decide), ?_⟩
         refine GmT.done (by kernel_rfl) ?_
         refine Qn.block_normal ?_
         refine qT ?_
         refine cR [0, 1, 2] (by kernel_rfl) ?_
         refine oP (r := []) [0, 1, 2] (S' := [(2, pb b1), (3, pb b5), (4, pb b9), (5, .string y11), (6, iv x14), (7, pb b18), (8, iv x21), (9, iv (wi64 (x30 + 1)))]) (by kernel_rfl) ?_
         refine oD ?_
         exact Qn.thenJ fun a ha => ⟨k, Nat.lt_succ_self k, wi64 (x30 + 1), st x31 x21 (wu32 ((wu32 ((gt x31 x21) * 256)) + (wu32 (bt y11 (wi64 ((wi64 (x14 + (wi64 (4 * x21)))) + x30)))))), h4, ha.keep [2, 3, 4, 5, 6, 7, 8, 9] (by kernel_rfl), hI, ((st_length _ _ _).trans hl32)⟩
        ·
         rw [if_neg hb33] at h4
         refine CodT.no' (b := decide (x30 < 4)) (by kernel_rfl) (by simpa using hb33) ?_
         refine CodT.exit ?_
         refine Qn.exit_then ?_
         refine Qn.exit_then ?_
         refine Qn.block ?_
         have e := someS h4
         subst e
         exact Qn.thenJ fun a ha => ⟨x31, rfl, ha.keep [2, 3, 4, 5, 6, 7, 8] (by kernel_rfl), hI, hl32⟩
       ·
        rintro a w ⟨x28, rfl, ha, hI, hl29⟩
        try dsimp only at h3
        refine Qn.of ?_ ha
        refine qT ?_
        refine CodT.exit ?_
        refine Qn.exit_then ?_
        refine Qn.block ?_
        have e := someS h3
        subst e
        exact Qn.thenJ fun a ha => ⟨x28, rfl, ha.keep [2, 3, 4, 5, 6, 7, 8] (by kernel_rfl), hI, hl29⟩
      ·
       rw [if_neg hb27] at h3
       refine CodT.no' (b := decide (x21 < 16)) (by kernel_rfl) (by simpa using hb27) ?_
       refine CodT.skip ?_
       refine qT ?_
       refine cQ ?_
       refine cR [0, 1, 2, 3, 4] (by kernel_rfl) ?_
       refine oP (r := [2, 3, 4]) [0, 1] (S' := [(2, pb b1), (3, pb b5), (4, pb b9), (5, .string y11), (6, iv x14), (7, pb b18), (8, iv x21), (61, iv (wi64 (x21 - 15)))]) (by kernel_rfl) ?_
       obtain ⟨hg37, h3⟩ := guardS h3
       refine oC (Does.yi (Yl.indexArr (d := 62) (T := 92) (k := .i64) (j := wi64 (x21 - 15)) (g := b18) (o := 0) (by kernel_rfl) Go.Proofs.Tryd.underlying92 ty89 hg37.1 hg37.2) hI ?_)
       refine oC (Does.yi (Yl.load (d := 63) (T := 89) (v := .int .u32 (gt x22 (wi64 (x21 - 15)))) (by kernel_rfl) (ldB ty89 (l := cA (Value.int .u32) x22) (o := 0 + (wi64 (x21 - 15)).toNat * 1) (v := .int .u32 (gt x22 (wi64 (x21 - 15)))) (ent_refl _) (arr_get _ _ hg37.1 (by have := And.intro hl23 hg37.2; omega)))) hI ?_)
       refine oP (r := []) [4] (S' := [(2, pb b1), (3, pb b5), (4, pb b9), (5, .string y11), (6, iv x14), (7, pb b18), (8, iv x21), (10, .int .u32 (gt x22 (wi64 (x21 - 15))))]) (by kernel_rfl) ?_
       refine oD ?_
       refine qT ?_
       refine cQ ?_
       refine cR [0, 1, 2, 3, 4] (by kernel_rfl) ?_
       refine oP (r := [2, 3, 4]) [0, 1] (S' := [(2, pb b1), (3, pb b5), (4, pb b9), (5, .string y11), (6, iv x14), (7, pb b18), (8, iv x21), (10, .int .u32 (gt x22 (wi64 (x21 - 15)))), (65, iv (wi64 (x21 - 2)))]) (by kernel_rfl) ?_
       obtain ⟨hg38, h3⟩ := guardS h3
       refine oC (Does.yi (Yl.indexArr (d := 66) (T := 92) (k := .i64) (j := wi64 (x21 - 2)) (g := b18) (o := 0) (by kernel_rfl) Go.Proofs.Tryd.underlying92 ty89 hg38.1 hg38.2) hI ?_)
       refine oC (Does.yi (Yl.load (d := 67) (T := 89) (v := .int .u32 (gt x22 (wi64 (x21 - 2)))) (by kernel_rfl) (ldB ty89 (l := cA (Value.int .u32) x22) (o := 0 + (wi64 (x21 - 2)).toNat * 1) (v := .int .u32 (gt x22 (wi64 (x21 - 2)))) (ent_refl _) (arr_get _ _ hg38.1 (by have := And.intro hl23 hg38.2; omega)))) hI ?_)
       refine oP (r := []) [4] (S' := [(2, pb b1), (3, pb b5), (4, pb b9), (5, .string y11), (6, iv x14), (7, pb b18), (8, iv x21), (10, .int .u32 (gt x22 (wi64 (x21 - 15)))), (11, .int .u32 (gt x22 (wi64 (x21 - 2))))]) (by kernel_rfl) ?_
       refine oD ?_
       refine qT ?_
       refine CodT.drawI (n := 30) [29] (by kernel_rfl) (by kernel_rfl) hI ?_
       intro w hI
       refine GmT.p' 0 68 (iv x21) (by kernel_rfl) (by kernel_rfl) ?_
       refine GmT.p' 1 69 (.int .u32 (gt x22 (wi64 (x21 - 2)))) (by kernel_rfl) (by kernel_rfl) ?_
       refine GmT.p' 3 71 (.int .u32 (gt x22 (wi64 (x21 - 2)))) (by kernel_rfl) (by kernel_rfl) ?_
       refine GmT.p' 6 74 (.int .u32 (gt x22 (wi64 (x21 - 2)))) (by kernel_rfl) (by kernel_rfl) ?_
       refine GmT.p' 9 77 (iv x21) (by kernel_rfl) (by kernel_rfl) ?_
       refine GmT.p' 10 78 (iv (wi64 (x21 - 7))) (by kernel_rfl) (by kernel_rfl) ?_
       refine GmT.p' 14 82 (.int .u32 (gt x22 (wi64 (x21 - 15)))) (by kernel_rfl) (by kernel_rfl) ?_
       refine GmT.p' 16 84 (.int .u32 (gt x22 (wi64 (x21 - 15)))) (by kernel_rfl) (by kernel_rfl) ?_
       refine GmT.p' 19 87 (.int .u32 (gt x22 (wi64 (x21 - 15)))) (by kernel_rfl) (by kernel_rfl) ?_
       refine GmT.p' 23 91 (iv x21) (by kernel_rfl) (by kernel_rfl) ?_
       refine GmT.p' 24 92 (iv (wi64 (x21 - 16))) (by kernel_rfl) (by kernel_rfl) ?_
       obtain ⟨hg39, h3⟩ := guardS h3
       refine GmT.r (i := 11) 2 (by kernel_rfl) (by kernel_rfl) (Yl.indexArr (d := 79) (T := 92) (k := .i64) (j := wi64 (x21 - 7)) (g := b18) (o := 0) (by kernel_rfl) Go.Proofs.Tryd.underlying92 ty89 hg39.1 hg39.2) hI ?_
       refine GmT.r (i := 12) 2 (by kernel_rfl) (by kernel_rfl) (Yl.load (d := 80) (T := 89) (v := .int .u32 (gt x22 (wi64 (x21 - 7)))) (by kernel_rfl) (ldB ty89 (l := cA (Value.int .u32) x22) (o := 0 + (wi64 (x21 - 7)).toNat * 1) (v := .int .u32 (gt x22 (wi64 (x21 - 7)))) (ent_refl _) (arr_get _ _ hg39.1 (by have := And.intro hl23 hg39.2; omega)))) hI ?_
       obtain ⟨hg40, h3⟩ := guardS h3
       refine GmT.r (i := 25) 2 (by kernel_rfl) (by kernel_rfl) (Yl.indexArr (d := 93) (T := 92) (k := .i64) (j := wi64 (x21 - 16)) (g := b18) (o := 0) (by kernel_rfl) Go.Proofs.Tryd.underlying92 ty89 hg40.1 hg40.2) hI ?_
       refine GmT.r (i := 26) 2 (by kernel_rfl) (by kernel_rfl) (Yl.load (d := 94) (T := 89) (v := .int .u32 (gt x22 (wi64 (x21 - 16)))) (by kernel_rfl) (ldB ty89 (l := cA (Value.int .u32) x22) (o := 0 + (wi64 (x21 - 16)).toNat * 1) (v := .int .u32 (gt x22 (wi64 (x21 - 16)))) (ent_refl _) (arr_get _ _ hg40.1 (by have := And.intro hl23 hg40.2; omega)))) hI ?_
       obtain ⟨y42, hc41, h3⟩ := bindS h3
       try dsimp only at h3
       refine GmT.o (i := 2) (by kernel_rfl) (Does.call (d := some 70) (n := 70) (vs := [.int .u32 (gt x22 (wi64 (x21 - 2))), iv 17]) (by kernel_rfl) en70 (c70 w0 w _ _ hI hT (gt x22 (wi64 (x21 - 2))) 17 _ hc41) ?_)
       rintro e w ⟨rfl, hI⟩
       refine ⟨_, rfl, ?_⟩
       refine ⟨fun _ _ => hI, ?_⟩
       obtain ⟨y44, hc43, h3⟩ := bindS h3
       try dsimp only at h3
       refine GmT.o (i := 4) (by kernel_rfl) (Does.call (d := some 72) (n := 70) (vs := [.int .u32 (gt x22 (wi64 (x21 - 2))), iv 19]) (by kernel_rfl) en70 (c70 w0 w _ _ hI hT (gt x22 (wi64 (x21 - 2))) 19 _ hc43) ?_)
       rintro e w ⟨rfl, hI⟩
       refine ⟨_, rfl, ?_⟩
       refine ⟨fun _ _ => hI, ?_⟩
       refine GmT.p' 5 73 (.int .u32 (bXor .u32 y42 y44)) (by kernel_rfl) (by kernel_rfl) ?_
       obtain ⟨y46, hc45, h3⟩ := bindS h3
       try dsimp only at h3
       refine GmT.o (i := 7) (by kernel_rfl) (Does.call (d := some 75) (n := 71) (vs := [.int .u32 (gt x22 (wi64 (x21 - 2))), iv 10]) (by kernel_rfl) en71 (c71 w0 w _ _ hI hT (gt x22 (wi64 (x21 - 2))) 10 _ hc45) ?_)
       rintro e w ⟨rfl, hI⟩
       refine ⟨_, rfl, ?_⟩
       refine ⟨fun _ _ => hI, ?_⟩
       refine GmT.p' 8 76 (.int .u32 (bXor .u32 (bXor .u32 y42 y44) y46)) (by kernel_rfl) (by kernel_rfl) ?_
       refine GmT.p' 13 81 (.int .u32 (wu32 ((bXor .u32 (bXor .u32 y42 y44) y46) + (gt x22 (wi64 (x21 - 7)))))) (by kernel_rfl) (by kernel_rfl) ?_
       obtain ⟨y48, hc47, h3⟩ := bindS h3
       try dsimp only at h3
       refine GmT.o (i := 15) (by kernel_rfl) (Does.call (d := some 83) (n := 70) (vs := [.int .u32 (gt x22 (wi64 (x21 - 15))), iv 7]) (by kernel_rfl) en70 (c70 w0 w _ _ hI hT (gt x22 (wi64 (x21 - 15))) 7 _ hc47) ?_)
       rintro e w ⟨rfl, hI⟩
       refine ⟨_, rfl, ?_⟩
       refine ⟨fun _ _ => hI, ?_⟩
       obtain ⟨y50, hc49, h3⟩ := bindS h3
       try dsimp only at h3
       refine GmT.o (i := 17) (by kernel_rfl) (Does.call (d := some 85) (n := 70) (vs := [.int .u32 (gt x22 (wi64 (x21 - 15))), iv 18]) (by kernel_rfl) en70 (c70 w0 w _ _ hI hT (gt x22 (wi64 (x21 - 15))) 18 _ hc49) ?_)
       rintro e w ⟨rfl, hI⟩
       refine ⟨_, rfl, ?_⟩
       refine ⟨fun _ _ => hI, ?_⟩
       refine GmT.p' 18 86 (.int .u32 (bXor .u32 y48 y50)) (by kernel_rfl) (by kernel_rfl) ?_
       obtain ⟨y52, hc51, h3⟩ := bindS h3
       try dsimp only at h3
       refine GmT.o (i := 20) (by kernel_rfl) (Does.call (d := some 88) (n := 71) (vs := [.int .u32 (gt x22 (wi64 (x21 - 15))), iv 3]) (by kernel_rfl) en71 (c71 w0 w _ _ hI hT (gt x22 (wi64 (x21 - 15))) 3 _ hc51) ?_)
       rintro e w ⟨rfl, hI⟩
       refine ⟨_, rfl, ?_⟩
       refine ⟨fun _ _ => hI, ?_⟩
       refine GmT.p' 21 89 (.int .u32 (bXor .u32 (bXor .u32 y48 y50) y52)) (by kernel_rfl) (by kernel_rfl) ?_
       refine GmT.p' 22 90 (.int .u32 (wu32 ((wu32 ((bXor .u32 (bXor .u32 y42 y44) y46) + (gt x22 (wi64 (x21 - 7))))) + (bXor .u32 (bXor .u32 y48 y50) y52)))) (by kernel_rfl) (by kernel_rfl) ?_
       refine GmT.p' 27 95 (.int .u32 (wu32 ((wu32 ((wu32 ((bXor .u32 (bXor .u32 y42 y44) y46) + (gt x22 (wi64 (x21 - 7))))) + (bXor .u32 (bXor .u32 y48 y50) y52))) + (gt x22 (wi64 (x21 - 16)))))) (by kernel_rfl) (by kernel_rfl) ?_
       obtain ⟨hg53, h3⟩ := guardS h3
       refine GmT.r (i := 28) 2 (by kernel_rfl) (by kernel_rfl) (Yl.indexArr (d := 96) (T := 92) (k := .i64) (j := x21) (g := b18) (o := 0) (by kernel_rfl) Go.Proofs.Tryd.underlying92 ty89 hg53.1 hg53.2) hI ?_
       refine GmT.o (i := 29) (by kernel_rfl) (Does.storeArr (e := (Value.int .u32)) (xs := x22) (u := wu32 ((wu32 ((wu32 ((bXor .u32 (bXor .u32 y42 y44) y46) + (gt x22 (wi64 (x21 - 7))))) + (bXor .u32 (bXor .u32 y48 y50) y52))) + (gt x22 (wi64 (x21 - 16))))) (T := 89) (b := b18) (j := x21) (by kernel_rfl) ty89 hI (by kernel_rfl) (by kernel_rfl) hg53.1 (by have := And.intro hl23 hg53.2; omega) ?_)
       intro w hI
       refine ⟨fun h => absurd h (by decide), ?_⟩
       refine GmT.done (by kernel_rfl) ?_
       refine Qn.block_normal ?_
       have e := someS h3
       subst e
       exact Qn.thenJ fun a ha => ⟨st x22 x21 (wu32 ((wu32 ((wu32 ((bXor .u32 (bXor .u32 y42 y44) y46) + (gt x22 (wi64 (x21 - 7))))) + (bXor .u32 (bXor .u32 y48 y50) y52))) + (gt x22 (wi64 (x21 - 16))))), rfl, ha.keep [2, 3, 4, 5, 6, 7, 8] (by kernel_rfl), hI, ((st_length _ _ _).trans hl23)⟩
     ·
      rintro a w ⟨x25, rfl, ha, hI, hl26⟩
      try dsimp only at h2
      refine CodT.of ?_ ha
      refine cR [0, 1, 2] (by kernel_rfl) ?_
      refine oP (r := []) [0, 1, 2] (S' := [(2, pb b1), (3, pb b5), (4, pb b9), (5, .string y11), (6, iv x14), (7, pb b18), (8, iv (wi64 (x21 + 1)))]) (by kernel_rfl) ?_
      refine oD ?_
      exact Qn.thenJ fun a ha => ⟨k, Nat.lt_succ_self k, wi64 (x21 + 1), x25, h2, ha.keep [2, 3, 4, 5, 6, 7, 8] (by kernel_rfl), hI, hl26⟩
    ·
     rw [if_neg hb24] at h2
     refine CodT.no' (b := decide (x21 < 64)) (by kernel_rfl) (by simpa using hb24) ?_
     refine CodT.exit ?_
     refine Qn.exit_then ?_
     refine Qn.exit_then ?_
     refine Qn.block ?_
     have e := someS h2
     subst e
     exact Qn.thenJ fun a ha => ⟨x22, rfl, ha.keep [2, 3, 4, 5, 6, 7] (by kernel_rfl), hI, hl23⟩
   ·
    rintro a w ⟨x19, rfl, ha, hI, hl20⟩
    try dsimp only at h1
    refine Qn.of ?_ ha
    refine qT ?_
    refine cQ ?_
    refine cR [0, 1, 2] (by kernel_rfl) ?_
    refine oC (Does.yi (Yl.load (d := 97) (T := 90) (v := .agg (cA (Value.int .u32) x15).toArray) (by kernel_rfl) (ldBN ty90 (l := cA (Value.int .u32) x15) (o := 0) (cs := cA (Value.int .u32) x15) (pick3 _ _ _ _) ((cA_length _ _).trans hl16) (whole _ _ ((cA_length _ _).trans hl16)))) hI ?_)
    refine oC (Does.allocL (d := 12) (T := 90) (cA (Value.int .u32) (List.replicate 8 (0 : Int))) (by kernel_rfl) ty90 hI (by kernel_rfl) ?_)
    intro b54 w hI
    refine oC (Does.storeAll (T := 90) (b := b54) (n := 8) (xs := (List.replicate 8 (0 : Int))) (ys := x15) (by kernel_rfl) ty90 hI (fun _ => rfl) (by kernel_rfl) hl16 ?_)
    intro w hI
    refine oD ?_
    refine qT ?_
    refine cQ ?_
    refine cQ ?_
    refine cR [0] (by kernel_rfl) ?_
    refine oP (r := []) [0] (S' := [(2, pb b1), (3, pb b5), (4, pb b9), (5, .string y11), (6, iv x14), (7, pb b18), (12, pb b54), (13, iv 0)]) (by kernel_rfl) ?_
    refine oD ?_
    refine qT ?_
    obtain ⟨r2, h2, h1⟩ := bindS h1
    refine CodT.meet1 (fun a w => ∃ (x55 : (List Int)), x55 = r2 ∧ Fr 216 [(2, pb b1), (3, pb b5), (4, pb b9), (5, .string y11), (6, iv x14), (12, pb b54)] a ∧ Inv w0 Z w (star (pt b54 (.cells (cA (Value.int .u32) x55).toArray 90 (0, 0))) (star (pt b9 (.cells (cA (Value.int .u32) y7).toArray 92 (0, 0))) (star (pt b5 (.cells (cA (Value.int .u32) x15).toArray 90 (0, 0))) (star (pt b1 (.cells (cA (Value.int .u8) (List.replicate 32 (0 : Int))).toArray 51 (0, 0))) A)))) ∧ x55.length = 8) ?_ ?_
    ·
     refine CodT.block ?_
     refine (fun a ha => wp_loopN (fun k a w => ∃ (x57 : Int) (x58 : (List Int)), ref02_Of.l3 y7 x19 k x57 x58 = some r2 ∧ Fr 216 [(2, pb b1), (3, pb b5), (4, pb b9), (5, .string y11), (6, iv x14), (7, pb b18), (12, pb b54), (13, iv x57)] a ∧ Inv w0 Z w (star (pt b54 (.cells (cA (Value.int .u32) x58).toArray 90 (0, 0))) (star (pt b18 (.cells (cA (Value.int .u32) x19).toArray 92 (0, 0))) (star (pt b9 (.cells (cA (Value.int .u32) y7).toArray 92 (0, 0))) (star (pt b5 (.cells (cA (Value.int .u32) x15).toArray 90 (0, 0))) (star (pt b1 (.cells (cA (Value.int .u8) (List.replicate 32 (0 : Int))).toArray 51 (0, 0))) A))))) ∧ x58.length = 8) ?_ FU a w ⟨0, x15, h2, ha.keep [2, 3, 4, 5, 6, 7, 12, 13] (by kernel_rfl), hI, hl16⟩)
     clear h2 hI
     rintro k a w ⟨x57, x58, h2, ha, hI, hl59⟩
     rcases k with _ | k
     ·
      cases h2
     simp only [ref02_Of.l3] at h2
     refine CodT.of ?_ ha
     refine cQ ?_
     refine cQ ?_
     refine cR [0, 1] (by kernel_rfl) ?_
     refine oP (r := []) [0, 1] (S' := [(2, pb b1), (3, pb b5), (4, pb b9), (5, .string y11), (6, iv x14), (7, pb b18), (12, pb b54), (13, iv x57), (99, .bool (decide (x57 < 64)))]) (by kernel_rfl) ?_
     refine oD ?_
     refine qT ?_
     by_cases hb60 : (decide (x57 < 64)) = true
     ·
      rw [if_pos hb60] at h2
      refine CodT.yes' (b := decide (x57 < 64)) (by kernel_rfl) hb60 ?_
      refine CodT.skip ?_
      refine qT ?_
      refine cQ ?_
      refine CodT.block ?_
      refine cQ ?_
      refine cR [0, 1, 2] (by kernel_rfl) ?_
      refine oP (r := [1, 2]) [0] (S' := [(2, pb b1), (3, pb b5), (4, pb b9), (5, .string y11), (6, iv x14), (7, pb b18), (12, pb b54), (13, iv x57), (102, .pointer (some ⟨b54, 4, none⟩))]) (by kernel_rfl) ?_
      refine oC (Does.yi (Yl.load (d := 103) (T := 89) (v := .int .u32 (gt x58 4)) (by kernel_rfl) (ldB ty89 (l := cA (Value.int .u32) x58) (o := 4) (v := .int .u32 (gt x58 4)) (ent_refl _) (arr_getC _ _ 4 hl59 (by kernel_rfl)))) hI ?_)
      refine oP (r := []) [2] (S' := [(2, pb b1), (3, pb b5), (4, pb b9), (5, .string y11), (6, iv x14), (7, pb b18), (12, pb b54), (13, iv x57), (14, .int .u32 (gt x58 4))]) (by kernel_rfl) ?_
      refine oD ?_
      refine qT ?_
      refine cQ ?_
      refine cR [0, 1, 2] (by kernel_rfl) ?_
      refine oP (r := [1, 2]) [0] (S' := [(2, pb b1), (3, pb b5), (4, pb b9), (5, .string y11), (6, iv x14), (7, pb b18), (12, pb b54), (13, iv x57), (14, .int .u32 (gt x58 4)), (104, pb b54)]) (by kernel_rfl) ?_
      refine oC (Does.yi (Yl.load (d := 105) (T := 89) (v := .int .u32 (gt x58 0)) (by kernel_rfl) (ldB ty89 (l := cA (Value.int .u32) x58) (o := 0) (v := .int .u32 (gt x58 0)) (ent_refl _) (arr_getC _ _ 0 hl59 (by kernel_rfl)))) hI ?_)
      refine oP (r := []) [2] (S' := [(2, pb b1), (3, pb b5), (4, pb b9), (5, .string y11), (6, iv x14), (7, pb b18), (12, pb b54), (13, iv x57), (14, .int .u32 (gt x58 4)), (15, .int .u32 (gt x58 0))]) (by kernel_rfl) ?_
      refine oD ?_
      refine qT ?_
      refine cQ ?_
      refine cR [0, 1, 2] (by kernel_rfl) ?_
      refine oP (r := []) [0, 1, 2] (S' := [(2, pb b1), (3, pb b5), (4, pb b9), (5, .string y11), (6, iv x14), (7, pb b18), (12, pb b54), (13, iv x57), (14, .int .u32 (gt x58 4)), (15, .int .u32 (gt x58 0)), (16, .int .u32 (wu32 (4294967295 - (gt x58 4))))]) (by kernel_rfl) ?_
      refine oD ?_
      refine qT ?_
      refine cQ ?_
      refine CodT.drawI (n := 30) [] (by kernel_rfl) (by kernel_rfl) hI ?_
      intro w hI
      refine GmT.p' 0 108 (.pointer (some ⟨b54, 7, none⟩)) (by kernel_rfl) (by kernel_rfl) ?_
      refine GmT.p' 2 110 (.int .u32 (gt x58 4)) (by kernel_rfl) (by kernel_rfl) ?_
      refine GmT.p' 4 112 (.int .u32 (gt x58 4)) (by kernel_rfl) (by kernel_rfl) ?_
      refine GmT.p' 7 115 (.int .u32 (gt x58 4)) (by kernel_rfl) (by kernel_rfl) ?_
      refine GmT.p' 11 119 (.int .u32 (gt x58 4)) (by kernel_rfl) (by kernel_rfl) ?_
      refine GmT.p' 12 120 (.pointer (some ⟨b54, 5, none⟩)) (by kernel_rfl) (by kernel_rfl) ?_
      refine GmT.p' 15 123 (.int .u32 (wu32 (4294967295 - (gt x58 4)))) (by kernel_rfl) (by kernel_rfl) ?_
      refine GmT.p' 16 124 (.pointer (some ⟨b54, 6, none⟩)) (by kernel_rfl) (by kernel_rfl) ?_
      refine GmT.p' 21 129 (iv x57) (by kernel_rfl) (by kernel_rfl) ?_
      refine GmT.p' 25 133 (iv x57) (by kernel_rfl) (by kernel_rfl) ?_
      refine GmT.r (i := 1) 2 (by kernel_rfl) (by kernel_rfl) (Yl.load (d := 109) (T := 89) (v := .int .u32 (gt x58 7)) (by kernel_rfl) (ldB ty89 (l := cA (Value.int .u32) x58) (o := 7) (v := .int .u32 (gt x58 7)) (ent_refl _) (arr_getC _ _ 7 hl59 (by kernel_rfl)))) hI ?_
      refine GmT.r (i := 13) 2 (by kernel_rfl) (by kernel_rfl) (Yl.load (d := 121) (T := 89) (v := .int .u32 (gt x58 5)) (by kernel_rfl) (ldB ty89 (l := cA (Value.int .u32) x58) (o := 5) (v := .int .u32 (gt x58 5)) (ent_refl _) (arr_getC _ _ 5 hl59 (by kernel_rfl)))) hI ?_
      refine GmT.p' 14 122 (.int .u32 (bAnd .u32 (gt x58 4) (gt x58 5))) (by kernel_rfl) (by kernel_rfl) ?_
      refine GmT.r (i := 17) 2 (by kernel_rfl) (by kernel_rfl) (Yl.load (d := 125) (T := 89) (v := .int .u32 (gt x58 6)) (by kernel_rfl) (ldB ty89 (l := cA (Value.int .u32) x58) (o := 6) (v := .int .u32 (gt x58 6)) (ent_refl _) (arr_getC _ _ 6 hl59 (by kernel_rfl)))) hI ?_
      refine GmT.p' 18 126 (.int .u32 (bAnd .u32 (wu32 (4294967295 - (gt x58 4))) (gt x58 6))) (by kernel_rfl) (by kernel_rfl) ?_
      refine GmT.p' 19 127 (.int .u32 (bXor .u32 (bAnd .u32 (gt x58 4) (gt x58 5)) (bAnd .u32 (wu32 (4294967295 - (gt x58 4))) (gt x58 6)))) (by kernel_rfl) (by kernel_rfl) ?_
      obtain ⟨hg61, h2⟩ := guardS h2
      refine GmT.r (i := 22) 2 (by kernel_rfl) (by kernel_rfl) (Yl.indexArr (d := 130) (T := 92) (k := .i64) (j := x57) (g := b9) (o := 0) (by kernel_rfl) Go.Proofs.Tryd.underlying92 ty89 hg61.1 hg61.2) hI ?_
      refine GmT.r (i := 23) 2 (by kernel_rfl) (by kernel_rfl) (Yl.load (d := 131) (T := 89) (v := .int .u32 (gt y7 x57)) (by kernel_rfl) (ldB ty89 (l := cA (Value.int .u32) y7) (o := 0 + x57.toNat * 1) (v := .int .u32 (gt y7 x57)) (pick3 _ _ _ _) (arr_get _ _ hg61.1 (by have := And.intro hl8 hg61.2; omega)))) hI ?_
      obtain ⟨hg62, h2⟩ := guardS h2
      refine GmT.r (i := 26) 2 (by kernel_rfl) (by kernel_rfl) (Yl.indexArr (d := 134) (T := 92) (k := .i64) (j := x57) (g := b18) (o := 0) (by kernel_rfl) Go.Proofs.Tryd.underlying92 ty89 hg62.1 hg62.2) hI ?_
      refine GmT.r (i := 27) 2 (by kernel_rfl) (by kernel_rfl) (Yl.load (d := 135) (T := 89) (v := .int .u32 (gt x19 x57)) (by kernel_rfl) (ldB ty89 (l := cA (Value.int .u32) x19) (o := 0 + x57.toNat * 1) (v := .int .u32 (gt x19 x57)) (pick2 _ _ _) (arr_get _ _ hg62.1 (by have := And.intro hl20 hg62.2; omega)))) hI ?_
      obtain ⟨y64, hc63, h2⟩ := bindS h2
      try dsimp only at h2
      refine GmT.o (i := 3) (by kernel_rfl) (Does.call (d := some 111) (n := 70) (vs := [.int .u32 (gt x58 4), iv 6]) (by kernel_rfl) en70 (c70 w0 w _ _ hI hT (gt x58 4) 6 _ hc63) ?_)
      rintro e w ⟨rfl, hI⟩
      refine ⟨_, rfl, ?_⟩
      refine ⟨fun _ _ => hI, ?_⟩
      obtain ⟨y66, hc65, h2⟩ := bindS h2
      try dsimp only at h2
      refine GmT.o (i := 5) (by kernel_rfl) (Does.call (d := some 113) (n := 70) (vs := [.int .u32 (gt x58 4), iv 11]) (by kernel_rfl) en70 (c70 w0 w _ _ hI hT (gt x58 4) 11 _ hc65) ?_)
      rintro e w ⟨rfl, hI⟩
      refine ⟨_, rfl, ?_⟩
      refine ⟨fun _ _ => hI, ?_⟩
      refine GmT.p' 6 114 (.int .u32 (bXor .u32 y64 y66)) (by kernel_rfl) (by kernel_rfl) ?_
      obtain ⟨y68, hc67, h2⟩ := bindS h2
      try dsimp only at h2
      refine GmT.o (i := 8) (by kernel_rfl) (Does.call (d := some 116) (n := 70) (vs := [.int .u32 (gt x58 4), iv 25]) (by kernel_rfl) en70 (c70 w0 w _ _ hI hT (gt x58 4) 25 _ hc67) ?_)
      rintro e w ⟨rfl, hI⟩
      refine ⟨_, rfl, ?_⟩
      refine ⟨fun _ _ => hI, ?_⟩
      refine GmT.p' 9 117 (.int .u32 (bXor .u32 (bXor .u32 y64 y66) y68)) (by kernel_rfl) (by kernel_rfl) ?_
      refine GmT.p' 10 118 (.int .u32 (wu32 ((gt x58 7) + (bXor .u32 (bXor .u32 y64 y66) y68)))) (by kernel_rfl) (by kernel_rfl) ?_
      refine GmT.p' 20 128 (.int .u32 (wu32 ((wu32 ((gt x58 7) + (bXor .u32 (bXor .u32 y64 y66) y68))) + (bXor .u32 (bAnd .u32 (gt x58 4) (gt x58 5)) (bAnd .u32 (wu32 (4294967295 - (gt x58 4))) (gt x58 6)))))) (by kernel_rfl) (by kernel_rfl) ?_
      refine GmT.p' 24 132 (.int .u32 (wu32 ((wu32 ((wu32 ((gt x58 7) + (bXor .u32 (bXor .u32 y64 y66) y68))) + (bXor .u32 (bAnd .u32 (gt x58 4) (gt x58 5)) (bAnd .u32 (wu32 (4294967295 - (gt x58 4))) (gt x58 6))))) + (gt y7 x57)))) (by kernel_rfl) (by kernel_rfl) ?_
      refine GmT.p' 28 136 (.int .u32 (wu32 ((wu32 ((wu32 ((wu32 ((gt x58 7) + (bXor .u32 (bXor .u32 y64 y66) y68))) + (bXor .u32 (bAnd .u32 (gt x58 4) (gt x58 5)) (bAnd .u32 (wu32 (4294967295 - (gt x58 4))) (gt x58 6))))) + (gt y7 x57))) + (gt x19 x57)))) (by kernel_rfl) (by kernel_rfl) ?_
      refine GmT.p' 29 17 (.int .u32 (wu32 ((wu32 ((wu32 ((wu32 ((gt x58 7) + (bXor .u32 (bXor .u32 y64 y66) y68))) + (bXor .u32 (bAnd .u32 (gt x58 4) (gt x58 5)) (bAnd .u32 (wu32 (4294967295 - (gt x58 4))) (gt x58 6))))) + (gt y7 x57))) + (gt x19 x57)))) (by kernel_rfl) (by kernel_rfl) ?_
      refine GmT.done (by kernel_rfl) ?_
      refine qT ?_
      refine cQ ?_
      refine CodT.drawI (n := 25) [] (by kernel_rfl) (by kernel_rfl) hI ?_
      intro w hI
      refine GmT.p' 0 137 (.int .u32 (gt x58 0)) (by kernel_rfl) (by kernel_rfl) ?_
      refine GmT.p' 2 139 (.int .u32 (gt x58 0)) (by kernel_rfl) (by kernel_rfl) ?_
      refine GmT.p' 5 142 (.int .u32 (gt x58 0)) (by kernel_rfl) (by kernel_rfl) ?_
      refine GmT.p' 8 145 (.int .u32 (gt x58 0)) (by kernel_rfl) (by kernel_rfl) ?_
      refine GmT.p' 9 146 (.pointer (some ⟨b54, 1, none⟩)) (by kernel_rfl) (by kernel_rfl) ?_
      refine GmT.p' 12 149 (.int .u32 (gt x58 0)) (by kernel_rfl) (by kernel_rfl) ?_
      refine GmT.p' 13 150 (.pointer (some ⟨b54, 2, none⟩)) (by kernel_rfl) (by kernel_rfl) ?_
      refine GmT.p' 17 154 (.pointer (some ⟨b54, 1, none⟩)) (by kernel_rfl) (by kernel_rfl) ?_
      refine GmT.p' 19 156 (.pointer (some ⟨b54, 2, none⟩)) (by kernel_rfl) (by kernel_rfl) ?_
      refine GmT.r (i := 10) 2 (by kernel_rfl) (by kernel_rfl) (Yl.load (d := 147) (T := 89) (v := .int .u32 (gt x58 1)) (by kernel_rfl) (ldB ty89 (l := cA (Value.int .u32) x58) (o := 1) (v := .int .u32 (gt x58 1)) (ent_refl _) (arr_getC _ _ 1 hl59 (by kernel_rfl)))) hI ?_
      refine GmT.p' 11 148 (.int .u32 (bAnd .u32 (gt x58 0) (gt x58 1))) (by kernel_rfl) (by kernel_rfl) ?_
      refine GmT.r (i := 14) 2 (by kernel_rfl) (by kernel_rfl) (Yl.load (d := 151) (T := 89) (v := .int .u32 (gt x58 2)) (by kernel_rfl) (ldB ty89 (l := cA (Value.int .u32) x58) (o := 2) (v := .int .u32 (gt x58 2)) (ent_refl _) (arr_getC _ _ 2 hl59 (by kernel_rfl)))) hI ?_
      refine GmT.p' 15 152 (.int .u32 (bAnd .u32 (gt x58 0) (gt x58 2))) (by kernel_rfl) (by kernel_rfl) ?_
      refine GmT.p' 16 153 (.int .u32 (bXor .u32 (bAnd .u32 (gt x58 0) (gt x58 1)) (bAnd .u32 (gt x58 0) (gt x58 2)))) (by kernel_rfl) (by kernel_rfl) ?_
      refine GmT.r (i := 18) 2 (by kernel_rfl) (by kernel_rfl) (Yl.load (d := 155) (T := 89) (v := .int .u32 (gt x58 1)) (by kernel_rfl) (ldB ty89 (l := cA (Value.int .u32) x58) (o := 1) (v := .int .u32 (gt x58 1)) (ent_refl _) (arr_getC _ _ 1 hl59 (by kernel_rfl)))) hI ?_
      refine GmT.r (i := 20) 2 (by kernel_rfl) (by kernel_rfl) (Yl.load (d := 157) (T := 89) (v := .int .u32 (gt x58 2)) (by kernel_rfl) (ldB ty89 (l := cA (Value.int .u32) x58) (o := 2) (v := .int .u32 (gt x58 2)) (ent_refl _) (arr_getC _ _ 2 hl59 (by kernel_rfl)))) hI ?_
      refine GmT.p' 21 158 (.int .u32 (bAnd .u32 (gt x58 1) (gt x58 2))) (by kernel_rfl) (by kernel_rfl) ?_
      refine GmT.p' 22 159 (.int .u32 (bXor .u32 (bXor .u32 (bAnd .u32 (gt x58 0) (gt x58 1)) (bAnd .u32 (gt x58 0) (gt x58 2))) (bAnd .u32 (gt x58 1) (gt x58 2)))) (by kernel_rfl) (by kernel_rfl) ?_
      obtain ⟨y70, hc69, h2⟩ := bindS h2
      try dsimp only at h2
      refine GmT.o (i := 1) (by kernel_rfl) (Does.call (d := some 138) (n := 70) (vs := [.int .u32 (gt x58 0), iv 2]) (by kernel_rfl) en70 (c70 w0 w _ _ hI hT (gt x58 0) 2 _ hc69) ?_)
      rintro e w ⟨rfl, hI⟩
      refine ⟨_, rfl, ?_⟩
      refine ⟨fun _ _ => hI, ?_⟩
      obtain ⟨y72, hc71, h2⟩ := bindS h2
      try dsimp only at h2
      refine GmT.o (i := 3) (by kernel_rfl) (Does.call (d := some 140) (n := 70) (vs := [.int .u32 (gt x58 0), iv 13]) (by kernel_rfl) en70 (c70 w0 w _ _ hI hT (gt x58 0) 13 _ hc71) ?_)
      rintro e w ⟨rfl, hI⟩
      refine ⟨_, rfl, ?_⟩
      refine ⟨fun _ _ => hI, ?_⟩
      refine GmT.p' 4 141 (.int .u32 (bXor .u32 y70 y72)) (by kernel_rfl) (by kernel_rfl) ?_
      obtain ⟨y74, hc73, h2⟩ := bindS h2
      try dsimp only at h2
      refine GmT.o (i := 6) (by kernel_rfl) (Does.call (d := some 143) (n := 70) (vs := [.int .u32 (gt x58 0), iv 22]) (by kernel_rfl) en70 (c70 w0 w _ _ hI hT (gt x58 0) 22 _ hc73) ?_)
      rintro e w ⟨rfl, hI⟩
      refine ⟨_, rfl, ?_⟩
      refine ⟨fun _ _ => hI, ?_⟩
      refine GmT.p' 7 144 (.int .u32 (bXor .u32 (bXor .u32 y70 y72) y74)) (by kernel_rfl) (by kernel_rfl) ?_
      refine GmT.p' 23 160 (.int .u32 (wu32 ((bXor .u32 (bXor .u32 y70 y72) y74) + (bXor .u32 (bXor .u32 (bAnd .u32 (gt x58 0) (gt x58 1)) (bAnd .u32 (gt x58 0) (gt x58 2))) (bAnd .u32 (gt x58 1) (gt x58 2)))))) (by kernel_rfl) (by kernel_rfl) ?_
      refine GmT.p' 24 18 (.int .u32 (wu32 ((bXor .u32 (bXor .u32 y70 y72) y74) + (bXor .u32 (bXor .u32 (bAnd .u32 (gt x58 0) (gt x58 1)) (bAnd .u32 (gt x58 0) (gt x58 2))) (bAnd .u32 (gt x58 1) (gt x58 2)))))) (by kernel_rfl) (by kernel_rfl) ?_
      refine GmT.done (by kernel_rfl) ?_
      refine qT ?_
      refine cR [0, 1, 2, 3, 4, 5, 6, 7, 8, 9, 10, 11, 12, 13, 14, 15, 16, 17, 18, 19, 20] (by kernel_rfl) ?_
      refine oP (r := [4, 5, 6, 7, 8, 9, 10, 11, 12, 13, 14, 15, 16, 17, 18, 19, 20]) [0, 1, 2, 3] (S' := [(2, pb b1), (3, pb b5), (4, pb b9), (5, .string y11), (6, iv x14), (7, pb b18), (12, pb b54), (13, iv x57), (17, .int .u32 (wu32 ((wu32 ((wu32 ((wu32 ((gt x58 7) + (bXor .u32 (bXor .u32 y64 y66) y68))) + (bXor .u32 (bAnd .u32 (gt x58 4) (gt x58 5)) (bAnd .u32 (wu32 (4294967295 - (gt x58 4))) (gt x58 6))))) + (gt y7 x57))) + (gt x19 x57)))), (163, .int .u32 (wu32 ((wu32 ((wu32 ((wu32 ((wu32 ((gt x58 7) + (bXor .u32 (bXor .u32 y64 y66) y68))) + (bXor .u32 (bAnd .u32 (gt x58 4) (gt x58 5)) (bAnd .u32 (wu32 (4294967295 - (gt x58 4))) (gt x58 6))))) + (gt y7 x57))) + (gt x19 x57))) + (wu32 ((bXor .u32 (bXor .u32 y70 y72) y74) + (bXor .u32 (bXor .u32 (bAnd .u32 (gt x58 0) (gt x58 1)) (bAnd .u32 (gt x58 0) (gt x58 2))) (bAnd .u32 (gt x58 1) (gt x58 2)))))))), (164, pb b54)]) (by kernel_rfl) ?_
      refine oC (Does.yi (Yl.load (d := 165) (T := 89) (v := .int .u32 (gt x58 0)) (by kernel_rfl) (ldB ty89 (l := cA (Value.int .u32) x58) (o := 0) (v := .int .u32 (gt x58 0)) (ent_refl _) (arr_getC _ _ 0 hl59 (by kernel_rfl)))) hI ?_)
      refine oP (r := [6, 7, 8, 9, 10, 11, 12, 13, 14, 15, 16, 17, 18, 19, 20]) [5] (S' := [(2, pb b1), (3, pb b5), (4, pb b9), (5, .string y11), (6, iv x14), (7, pb b18), (12, pb b54), (13, iv x57), (17, .int .u32 (wu32 ((wu32 ((wu32 ((wu32 ((gt x58 7) + (bXor .u32 (bXor .u32 y64 y66) y68))) + (bXor .u32 (bAnd .u32 (gt x58 4) (gt x58 5)) (bAnd .u32 (wu32 (4294967295 - (gt x58 4))) (gt x58 6))))) + (gt y7 x57))) + (gt x19 x57)))), (163, .int .u32 (wu32 ((wu32 ((wu32 ((wu32 ((wu32 ((gt x58 7) + (bXor .u32 (bXor .u32 y64 y66) y68))) + (bXor .u32 (bAnd .u32 (gt x58 4) (gt x58 5)) (bAnd .u32 (wu32 (4294967295 - (gt x58 4))) (gt x58 6))))) + (gt y7 x57))) + (gt x19 x57))) + (wu32 ((bXor .u32 (bXor .u32 y70 y72) y74) + (bXor .u32 (bXor .u32 (bAnd .u32 (gt x58 0) (gt x58 1)) (bAnd .u32 (gt x58 0) (gt x58 2))) (bAnd .u32 (gt x58 1) (gt x58 2)))))))), (165, .int .u32 (gt x58 0)), (166, .pointer (some ⟨b54, 1, none⟩))]) (by kernel_rfl) ?_
      refine oC (Does.yi (Yl.load (d := 167) (T := 89) (v := .int .u32 (gt x58 1)) (by kernel_rfl) (ldB ty89 (l := cA (Value.int .u32) x58) (o := 1) (v := .int .u32 (gt x58 1)) (ent_refl _) (arr_getC _ _ 1 hl59 (by kernel_rfl)))) hI ?_)
      refine oP (r := [8, 9, 10, 11, 12, 13, 14, 15, 16, 17, 18, 19, 20]) [7] (S' := [(2, pb b1), (3, pb b5), (4, pb b9), (5, .string y11), (6, iv x14), (7, pb b18), (12, pb b54), (13, iv x57), (17, .int .u32 (wu32 ((wu32 ((wu32 ((wu32 ((gt x58 7) + (bXor .u32 (bXor .u32 y64 y66) y68))) + (bXor .u32 (bAnd .u32 (gt x58 4) (gt x58 5)) (bAnd .u32 (wu32 (4294967295 - (gt x58 4))) (gt x58 6))))) + (gt y7 x57))) + (gt x19 x57)))), (163, .int .u32 (wu32 ((wu32 ((wu32 ((wu32 ((wu32 ((gt x58 7) + (bXor .u32 (bXor .u32 y64 y66) y68))) + (bXor .u32 (bAnd .u32 (gt x58 4) (gt x58 5)) (bAnd .u32 (wu32 (4294967295 - (gt x58 4))) (gt x58 6))))) + (gt y7 x57))) + (gt x19 x57))) + (wu32 ((bXor .u32 (bXor .u32 y70 y72) y74) + (bXor .u32 (bXor .u32 (bAnd .u32 (gt x58 0) (gt x58 1)) (bAnd .u32 (gt x58 0) (gt x58 2))) (bAnd .u32 (gt x58 1) (gt x58 2)))))))), (165, .int .u32 (gt x58 0)), (167, .int .u32 (gt x58 1)), (168, .pointer (some ⟨b54, 2, none⟩))]) (by kernel_rfl) ?_
      refine oC (Does.yi (Yl.load (d := 169) (T := 89) (v := .int .u32 (gt x58 2)) (by kernel_rfl) (ldB ty89 (l := cA (Value.int .u32) x58) (o := 2) (v := .int .u32 (gt x58 2)) (ent_refl _) (arr_getC _ _ 2 hl59 (by kernel_rfl)))) hI ?_)
      refine oP (r := [10, 11, 12, 13, 14, 15, 16, 17, 18, 19, 20]) [9] (S' := [(2, pb b1), (3, pb b5), (4, pb b9), (5, .string y11), (6, iv x14), (7, pb b18), (12, pb b54), (13, iv x57), (17, .int .u32 (wu32 ((wu32 ((wu32 ((wu32 ((gt x58 7) + (bXor .u32 (bXor .u32 y64 y66) y68))) + (bXor .u32 (bAnd .u32 (gt x58 4) (gt x58 5)) (bAnd .u32 (wu32 (4294967295 - (gt x58 4))) (gt x58 6))))) + (gt y7 x57))) + (gt x19 x57)))), (163, .int .u32 (wu32 ((wu32 ((wu32 ((wu32 ((wu32 ((gt x58 7) + (bXor .u32 (bXor .u32 y64 y66) y68))) + (bXor .u32 (bAnd .u32 (gt x58 4) (gt x58 5)) (bAnd .u32 (wu32 (4294967295 - (gt x58 4))) (gt x58 6))))) + (gt y7 x57))) + (gt x19 x57))) + (wu32 ((bXor .u32 (bXor .u32 y70 y72) y74) + (bXor .u32 (bXor .u32 (bAnd .u32 (gt x58 0) (gt x58 1)) (bAnd .u32 (gt x58 0) (gt x58 2))) (bAnd .u32 (gt x58 1) (gt x58 2)))))))), (165, .int .u32 (gt x58 0)), (167, .int .u32 (gt x58 1)), (169, .int .u32 (gt x58 2)), (170, .pointer (some ⟨b54, 3, none⟩))]) (by kernel_rfl) ?_
      refine oC (Does.yi (Yl.load (d := 171) (T := 89) (v := .int .u32 (gt x58 3)) (by kernel_rfl) (ldB ty89 (l := cA (Value.int .u32) x58) (o := 3) (v := .int .u32 (gt x58 3)) (ent_refl _) (arr_getC _ _ 3 hl59 (by kernel_rfl)))) hI ?_)
      refine oP (r := [14, 15, 16, 17, 18, 19, 20]) [11, 12, 13] (S' := [(2, pb b1), (3, pb b5), (4, pb b9), (5, .string y11), (6, iv x14), (7, pb b18), (12, pb b54), (13, iv x57), (163, .int .u32 (wu32 ((wu32 ((wu32 ((wu32 ((wu32 ((gt x58 7) + (bXor .u32 (bXor .u32 y64 y66) y68))) + (bXor .u32 (bAnd .u32 (gt x58 4) (gt x58 5)) (bAnd .u32 (wu32 (4294967295 - (gt x58 4))) (gt x58 6))))) + (gt y7 x57))) + (gt x19 x57))) + (wu32 ((bXor .u32 (bXor .u32 y70 y72) y74) + (bXor .u32 (bXor .u32 (bAnd .u32 (gt x58 0) (gt x58 1)) (bAnd .u32 (gt x58 0) (gt x58 2))) (bAnd .u32 (gt x58 1) (gt x58 2)))))))), (165, .int .u32 (gt x58 0)), (167, .int .u32 (gt x58 1)), (169, .int .u32 (gt x58 2)), (173, .int .u32 (wu32 ((gt x58 3) + (wu32 ((wu32 ((wu32 ((wu32 ((gt x58 7) + (bXor .u32 (bXor .u32 y64 y66) y68))) + (bXor .u32 (bAnd .u32 (gt x58 4) (gt x58 5)) (bAnd .u32 (wu32 (4294967295 - (gt x58 4))) (gt x58 6))))) + (gt y7 x57))) + (gt x19 x57)))))), (174, .pointer (some ⟨b54, 4, none⟩))]) (by kernel_rfl) ?_
      refine oC (Does.yi (Yl.load (d := 175) (T := 89) (v := .int .u32 (gt x58 4)) (by kernel_rfl) (ldB ty89 (l := cA (Value.int .u32) x58) (o := 4) (v := .int .u32 (gt x58 4)) (ent_refl _) (arr_getC _ _ 4 hl59 (by kernel_rfl)))) hI ?_)
      refine oP (r := [16, 17, 18, 19, 20]) [15] (S' := [(2, pb b1), (3, pb b5), (4, pb b9), (5, .string y11), (6, iv x14), (7, pb b18), (12, pb b54), (13, iv x57), (163, .int .u32 (wu32 ((wu32 ((wu32 ((wu32 ((wu32 ((gt x58 7) + (bXor .u32 (bXor .u32 y64 y66) y68))) + (bXor .u32 (bAnd .u32 (gt x58 4) (gt x58 5)) (bAnd .u32 (wu32 (4294967295 - (gt x58 4))) (gt x58 6))))) + (gt y7 x57))) + (gt x19 x57))) + (wu32 ((bXor .u32 (bXor .u32 y70 y72) y74) + (bXor .u32 (bXor .u32 (bAnd .u32 (gt x58 0) (gt x58 1)) (bAnd .u32 (gt x58 0) (gt x58 2))) (bAnd .u32 (gt x58 1) (gt x58 2)))))))), (165, .int .u32 (gt x58 0)), (167, .int .u32 (gt x58 1)), (169, .int .u32 (gt x58 2)), (173, .int .u32 (wu32 ((gt x58 3) + (wu32 ((wu32 ((wu32 ((wu32 ((gt x58 7) + (bXor .u32 (bXor .u32 y64 y66) y68))) + (bXor .u32 (bAnd .u32 (gt x58 4) (gt x58 5)) (bAnd .u32 (wu32 (4294967295 - (gt x58 4))) (gt x58 6))))) + (gt y7 x57))) + (gt x19 x57)))))), (175, .int .u32 (gt x58 4)), (176, .pointer (some ⟨b54, 5, none⟩))]) (by kernel_rfl) ?_
      refine oC (Does.yi (Yl.load (d := 177) (T := 89) (v := .int .u32 (gt x58 5)) (by kernel_rfl) (ldB ty89 (l := cA (Value.int .u32) x58) (o := 5) (v := .int .u32 (gt x58 5)) (ent_refl _) (arr_getC _ _ 5 hl59 (by kernel_rfl)))) hI ?_)
      refine oP (r := [18, 19, 20]) [17] (S' := [(2, pb b1), (3, pb b5), (4, pb b9), (5, .string y11), (6, iv x14), (7, pb b18), (12, pb b54), (13, iv x57), (163, .int .u32 (wu32 ((wu32 ((wu32 ((wu32 ((wu32 ((gt x58 7) + (bXor .u32 (bXor .u32 y64 y66) y68))) + (bXor .u32 (bAnd .u32 (gt x58 4) (gt x58 5)) (bAnd .u32 (wu32 (4294967295 - (gt x58 4))) (gt x58 6))))) + (gt y7 x57))) + (gt x19 x57))) + (wu32 ((bXor .u32 (bXor .u32 y70 y72) y74) + (bXor .u32 (bXor .u32 (bAnd .u32 (gt x58 0) (gt x58 1)) (bAnd .u32 (gt x58 0) (gt x58 2))) (bAnd .u32 (gt x58 1) (gt x58 2)))))))), (165, .int .u32 (gt x58 0)), (167, .int .u32 (gt x58 1)), (169, .int .u32 (gt x58 2)), (173, .int .u32 (wu32 ((gt x58 3) + (wu32 ((wu32 ((wu32 ((wu32 ((gt x58 7) + (bXor .u32 (bXor .u32 y64 y66) y68))) + (bXor .u32 (bAnd .u32 (gt x58 4) (gt x58 5)) (bAnd .u32 (wu32 (4294967295 - (gt x58 4))) (gt x58 6))))) + (gt y7 x57))) + (gt x19 x57)))))), (175, .int .u32 (gt x58 4)), (177, .int .u32 (gt x58 5)), (178, .pointer (some ⟨b54, 6, none⟩))]) (by kernel_rfl) ?_
      refine oC (Does.yi (Yl.load (d := 179) (T := 89) (v := .int .u32 (gt x58 6)) (by kernel_rfl) (ldB ty89 (l := cA (Value.int .u32) x58) (o := 6) (v := .int .u32 (gt x58 6)) (ent_refl _) (arr_getC _ _ 6 hl59 (by kernel_rfl)))) hI ?_)
      refine oP (r := [20]) [19] (S' := [(2, pb b1), (3, pb b5), (4, pb b9), (5, .string y11), (6, iv x14), (7, pb b18), (12, pb b54), (13, iv x57), (180, .agg (cA (Value.int .u32) ([wu32 ((wu32 ((wu32 ((wu32 ((wu32 ((gt x58 7) + (bXor .u32 (bXor .u32 y64 y66) y68))) + (bXor .u32 (bAnd .u32 (gt x58 4) (gt x58 5)) (bAnd .u32 (wu32 (4294967295 - (gt x58 4))) (gt x58 6))))) + (gt y7 x57))) + (gt x19 x57))) + (wu32 ((bXor .u32 (bXor .u32 y70 y72) y74) + (bXor .u32 (bXor .u32 (bAnd .u32 (gt x58 0) (gt x58 1)) (bAnd .u32 (gt x58 0) (gt x58 2))) (bAnd .u32 (gt x58 1) (gt x58 2)))))), gt x58 0, gt x58 1, gt x58 2, wu32 ((gt x58 3) + (wu32 ((wu32 ((wu32 ((wu32 ((gt x58 7) + (bXor .u32 (bXor .u32 y64 y66) y68))) + (bXor .u32 (bAnd .u32 (gt x58 4) (gt x58 5)) (bAnd .u32 (wu32 (4294967295 - (gt x58 4))) (gt x58 6))))) + (gt y7 x57))) + (gt x19 x57)))), gt x58 4, gt x58 5, gt x58 6] : List Int)).toArray)]) (by kernel_rfl) ?_
      refine oC (Does.storeAll (T := 90) (b := b54) (n := 8) (xs := x58) (ys := ([wu32 ((wu32 ((wu32 ((wu32 ((wu32 ((gt x58 7) + (bXor .u32 (bXor .u32 y64 y66) y68))) + (bXor .u32 (bAnd .u32 (gt x58 4) (gt x58 5)) (bAnd .u32 (wu32 (4294967295 - (gt x58 4))) (gt x58 6))))) + (gt y7 x57))) + (gt x19 x57))) + (wu32 ((bXor .u32 (bXor .u32 y70 y72) y74) + (bXor .u32 (bXor .u32 (bAnd .u32 (gt x58 0) (gt x58 1)) (bAnd .u32 (gt x58 0) (gt x58 2))) (bAnd .u32 (gt x58 1) (gt x58 2)))))), gt x58 0, gt x58 1, gt x58 2, wu32 ((gt x58 3) + (wu32 ((wu32 ((wu32 ((wu32 ((gt x58 7) + (bXor .u32 (bXor .u32 y64 y66) y68))) + (bXor .u32 (bAnd .u32 (gt x58 4) (gt x58 5)) (bAnd .u32 (wu32 (4294967295 - (gt x58 4))) (gt x58 6))))) + (gt y7 x57))) + (gt x19 x57)))), gt x58 4, gt x58 5, gt x58 6] : List Int)) (by kernel_rfl) ty90 hI (fun _ => rfl) hl59 (by kernel_rfl) ?_)
      intro w hI
      refine oD ?_
      refine Qn.block_normal ?_
      refine qT ?_
      refine cR [0, 1, 2] (by kernel_rfl) ?_
      refine oP (r := []) [0, 1, 2] (S' := [(2, pb b1), (3, pb b5), (4, pb b9), (5, .string y11), (6, iv x14), (7, pb b18), (12, pb b54), (13, iv (wi64 (x57 + 1)))]) (by kernel_rfl) ?_
      refine oD ?_
      exact Qn.thenJ fun a ha => ⟨k, Nat.lt_succ_self k, wi64 (x57 + 1), ([wu32 ((wu32 ((wu32 ((wu32 ((wu32 ((gt x58 7) + (bXor .u32 (bXor .u32 y64 y66) y68))) + (bXor .u32 (bAnd .u32 (gt x58 4) (gt x58 5)) (bAnd .u32 (wu32 (4294967295 - (gt x58 4))) (gt x58 6))))) + (gt y7 x57))) + (gt x19 x57))) + (wu32 ((bXor .u32 (bXor .u32 y70 y72) y74) + (bXor .u32 (bXor .u32 (bAnd .u32 (gt x58 0) (gt x58 1)) (bAnd .u32 (gt x58 0) (gt x58 2))) (bAnd .u32 (gt x58 1) (gt x58 2)))))), gt x58 0, gt x58 1, gt x58 2, wu32 ((gt x58 3) + (wu32 ((wu32 ((wu32 ((wu32 ((gt x58 7) + (bXor .u32 (bXor .u32 y64 y66) y68))) + (bXor .u32 (bAnd .u32 (gt x58 4) (gt x58 5)) (bAnd .u32 (wu32 (4294967295 - (gt x58 4))) (gt x58 6))))) + (gt y7 x57))) + (gt x19 x57)))), gt x58 4, gt x58 5, gt x58 6] : List Int), h2, ha.keep [2, 3, 4, 5, 6, 7, 12, 13] (by kernel_rfl), hI, (by kernel_rfl)⟩
     ·
      rw [if_neg hb60] at h2
      refine CodT.no' (b := decide (x57 < 64)) (by kernel_rfl) (by simpa using hb60) ?_
      refine CodT.exit ?_
      refine Qn.exit_then ?_
      refine Qn.exit_then ?_
      refine Qn.block ?_
      have hI := hI.mono (pick2 _ _ _)
      have hI := hI.drop
      have e := someS h2
      subst e
      exact Qn.thenJ fun a ha => ⟨x58, rfl, ha.keep [2, 3, 4, 5, 6, 12] (by kernel_rfl), hI, hl59⟩
    ·
     rintro a w ⟨x55, rfl, ha, hI, hl56⟩
     try dsimp only at h1
     refine Qn.of ?_ ha
     refine qT ?_
     refine cQ ?_
     refine cR [0] (by kernel_rfl) ?_
     refine oP (r := []) [0] (S' := [(2, pb b1), (3, pb b5), (4, pb b9), (5, .string y11), (6, iv x14), (12, pb b54), (19, iv 0)]) (by kernel_rfl) ?_
     refine oD ?_
     refine qT ?_
     obtain ⟨r2, h2, h1⟩ := bindS h1
     refine CodT.meet1 (fun a w => ∃ (x75 : (List Int)), x75 = r2 ∧ Fr 216 [(2, pb b1), (3, pb b5), (4, pb b9), (5, .string y11), (6, iv x14)] a ∧ Inv w0 Z w (star (pt b9 (.cells (cA (Value.int .u32) y7).toArray 92 (0, 0))) (star (pt b5 (.cells (cA (Value.int .u32) x75).toArray 90 (0, 0))) (star (pt b1 (.cells (cA (Value.int .u8) (List.replicate 32 (0 : Int))).toArray 51 (0, 0))) A))) ∧ x75.length = 8) ?_ ?_
     ·
      refine CodT.block ?_
      refine (fun a ha => wp_loopN (fun k a w => ∃ (x77 : Int) (x78 : (List Int)), ref02_Of.l4 x55 k x77 x78 = some r2 ∧ Fr 216 [(2, pb b1), (3, pb b5), (4, pb b9), (5, .string y11), (6, iv x14), (12, pb b54), (19, iv x77)] a ∧ Inv w0 Z w (star (pt b54 (.cells (cA (Value.int .u32) x55).toArray 90 (0, 0))) (star (pt b9 (.cells (cA (Value.int .u32) y7).toArray 92 (0, 0))) (star (pt b5 (.cells (cA (Value.int .u32) x78).toArray 90 (0, 0))) (star (pt b1 (.cells (cA (Value.int .u8) (List.replicate 32 (0 : Int))).toArray 51 (0, 0))) A)))) ∧ x78.length = 8) ?_ FU a w ⟨0, x15, h2, ha.keep [2, 3, 4, 5, 6, 12, 19] (by kernel_rfl), hI, hl16⟩)
      clear h2 hI
      rintro k a w ⟨x77, x78, h2, ha, hI, hl79⟩
      rcases k with _ | k
      ·
       cases h2
      simp only [ref02_Of.l4] at h2
      refine CodT.of ?_ ha
      refine cQ ?_
      refine cQ ?_
      refine cR [0, 1] (by kernel_rfl) ?_
      refine oP (r := []) [0, 1] (S' := [(2, pb b1), (3, pb b5), (4, pb b9), (5, .string y11), (6, iv x14), (12, pb b54), (19, iv x77), (182, .bool (decide (x77 < 8)))]) (by kernel_rfl) ?_
      refine oD ?_
      refine qT ?_
      by_cases hb80 : (decide (x77 < 8)) = true
      ·
       rw [if_pos hb80] at h2
       refine CodT.yes' (b := decide (x77 < 8)) (by kernel_rfl) hb80 ?_
       refine CodT.skip ?_
       refine qT ?_
       refine cQ ?_
       refine CodT.block ?_
       refine CodT.drawI (n := 10) [9] (by kernel_rfl) (by kernel_rfl) hI ?_
       intro w hI
       refine GmT.p' 0 185 (iv x77) (by kernel_rfl) (by kernel_rfl) ?_
       refine GmT.p' 1 186 (iv x77) (by kernel_rfl) (by kernel_rfl) ?_
       refine GmT.p' 4 189 (iv x77) (by kernel_rfl) (by kernel_rfl) ?_
       obtain ⟨hg81, h2⟩ := guardS h2
       refine GmT.r (i := 2) 2 (by kernel_rfl) (by kernel_rfl) (Yl.indexArr (d := 187) (T := 90) (k := .i64) (j := x77) (g := b5) (o := 0) (by kernel_rfl) Go.Proofs.Tryd.underlying90 ty89 hg81.1 hg81.2) hI ?_
       refine GmT.r (i := 3) 2 (by kernel_rfl) (by kernel_rfl) (Yl.load (d := 188) (T := 89) (v := .int .u32 (gt x78 x77)) (by kernel_rfl) (ldB ty89 (l := cA (Value.int .u32) x78) (o := 0 + x77.toNat * 1) (v := .int .u32 (gt x78 x77)) (pick3 _ _ _ _) (arr_get _ _ hg81.1 (by have := And.intro hl79 hg81.2; omega)))) hI ?_
       obtain ⟨hg82, h2⟩ := guardS h2
       refine GmT.r (i := 5) 2 (by kernel_rfl) (by kernel_rfl) (Yl.indexArr (d := 190) (T := 90) (k := .i64) (j := x77) (g := b54) (o := 0) (by kernel_rfl) Go.Proofs.Tryd.underlying90 ty89 hg82.1 hg82.2) hI ?_
       refine GmT.r (i := 6) 2 (by kernel_rfl) (by kernel_rfl) (Yl.load (d := 191) (T := 89) (v := .int .u32 (gt x55 x77)) (by kernel_rfl) (ldB ty89 (l := cA (Value.int .u32) x55) (o := 0 + x77.toNat * 1) (v := .int .u32 (gt x55 x77)) (ent_refl _) (arr_get _ _ hg82.1 (by have := And.intro hl56 hg82.2; omega)))) hI ?_
       refine GmT.p' 7 192 (.int .u32 (wu32 ((gt x78 x77) + (gt x55 x77)))) (by kernel_rfl) (by kernel_rfl) ?_
       obtain ⟨hg83, h2⟩ := guardS h2
       refine GmT.r (i := 8) 2 (by kernel_rfl) (by kernel_rfl) (Yl.indexArr (d := 193) (T := 90) (k := .i64) (j := x77) (g := b5) (o := 0) (by kernel_rfl) Go.Proofs.Tryd.underlying90 ty89 hg83.1 hg83.2) hI ?_
       have hI := hI.mono (pick3 _ _ _ _)
       refine GmT.o (i := 9) (by kernel_rfl) (Does.storeArr (e := (Value.int .u32)) (xs := x78) (u := wu32 ((gt x78 x77) + (gt x55 x77))) (T := 89) (b := b5) (j := x77) (by kernel_rfl) ty89 hI (by kernel_rfl) (by kernel_rfl) hg83.1 (by have := And.intro hl79 hg83.2; omega) ?_)
       intro w hI
       refine ⟨fun h => absurd h (by decide), ?_⟩
       refine GmT.done (by kernel_rfl) ?_
       refine Qn.block_normal ?_
       refine qT ?_
       refine cR [0, 1, 2] (by kernel_rfl) ?_
       refine oP (r := []) [0, 1, 2] (S' := [(2, pb b1), (3, pb b5), (4, pb b9), (5, .string y11), (6, iv x14), (12, pb b54), (19, iv (wi64 (x77 + 1)))]) (by kernel_rfl) ?_
       refine oD ?_
       have hI := hI.mono (pick4 _ _ _ _ _)
       have hI := hI.mono (pick2 _ _ _)
       have hI := hI.mono (pick4 _ _ _ _ _)
       have hI := hI.mono (pick4 _ _ _ _ _)
       exact Qn.thenJ fun a ha => ⟨k, Nat.lt_succ_self k, wi64 (x77 + 1), st x78 x77 (wu32 ((gt x78 x77) + (gt x55 x77))), h2, ha.keep [2, 3, 4, 5, 6, 12, 19] (by kernel_rfl), hI, ((st_length _ _ _).trans hl79)⟩
      ·
       rw [if_neg hb80] at h2
       refine CodT.no' (b := decide (x77 < 8)) (by kernel_rfl) (by simpa using hb80) ?_
       refine CodT.exit ?_
       refine Qn.exit_then ?_
       refine Qn.exit_then ?_
       refine Qn.block ?_
       have hI := hI.drop
       have e := someS h2
       subst e
       exact Qn.thenJ fun a ha => ⟨x78, rfl, ha.keep [2, 3, 4, 5, 6] (by kernel_rfl), hI, hl79⟩
     ·
      rintro a w ⟨x75, rfl, ha, hI, hl76⟩
      try dsimp only at h1
      refine Qn.of ?_ ha
      refine Qn.block_normal ?_
      refine qT ?_
      refine cR [0, 1, 2] (by kernel_rfl) ?_
      refine oP (r := []) [0, 1, 2] (S' := [(2, pb b1), (3, pb b5), (4, pb b9), (5, .string y11), (6, iv (wi64 (x14 + 64)))]) (by kernel_rfl) ?_
      refine oD ?_
      exact Qn.thenJ fun a ha => ⟨k, Nat.lt_succ_self k, wi64 (x14 + 64), x75, h1, ha.keep [2, 3, 4, 5, 6] (by kernel_rfl), hI, hl76⟩
  ·
   rw [if_neg hb17] at h1
   refine CodT.no' (b := decide (x14 < (y11.size : Int))) (by kernel_rfl) (by simpa using hb17) ?_
   refine CodT.exit ?_
   refine Qn.exit_then ?_
   refine Qn.exit_then ?_
   refine Qn.block ?_
   have hI := hI.drop
   have e := someS h1
   subst e
   exact Qn.thenJ fun a ha => ⟨x15, rfl, ha.keep [2, 3] (by kernel_rfl), hI, hl16⟩
 ·
  rintro a w ⟨x12, rfl, ha, hI, hl13⟩
  try dsimp only at h0
  refine Qn.of ?_ ha
  refine qT ?_
  refine cQ ?_
  refine cR [0] (by kernel_rfl) ?_
  refine oC (Does.allocL (d := 20) (T := 51) (cA (Value.int .u8) (List.replicate 32 (0 : Int))) (by kernel_rfl) ty51 hI (by kernel_rfl) ?_)
  intro b84 w hI
  refine oD ?_
  refine qT ?_
  refine cQ ?_
  refine cQ ?_
  refine cR [0] (by kernel_rfl) ?_
  refine oP (r := []) [0] (S' := [(2, pb b1), (3, pb b5), (20, pb b84), (21, iv 0)]) (by kernel_rfl) ?_
  refine oD ?_
  refine qT ?_
  obtain ⟨r1, h1, h0⟩ := bindS h0
  refine CodT.meet1 (fun a w => ∃ (x85 : (List Int)), x85 = r1 ∧ Fr 216 [(2, pb b1), (20, pb b84)] a ∧ Inv w0 Z w (star (pt b84 (.cells (cA (Value.int .u8) x85).toArray 51 (0, 0))) (star (pt b1 (.cells (cA (Value.int .u8) (List.replicate 32 (0 : Int))).toArray 51 (0, 0))) A)) ∧ x85.length = 32) ?_ ?_
  ·
   refine CodT.block ?_
   refine (fun a ha => wp_loopN (fun k a w => ∃ (x87 : Int) (x88 : (List Int)), ref02_Of.l5 x12 k x87 x88 = some r1 ∧ Fr 216 [(2, pb b1), (3, pb b5), (20, pb b84), (21, iv x87)] a ∧ Inv w0 Z w (star (pt b84 (.cells (cA (Value.int .u8) x88).toArray 51 (0, 0))) (star (pt b5 (.cells (cA (Value.int .u32) x12).toArray 90 (0, 0))) (star (pt b1 (.cells (cA (Value.int .u8) (List.replicate 32 (0 : Int))).toArray 51 (0, 0))) A))) ∧ x88.length = 32) ?_ FU a w ⟨0, (List.replicate 32 (0 : Int)), h1, ha.keep [2, 3, 20, 21] (by kernel_rfl), hI, (by kernel_rfl)⟩)
   clear h1 hI
   rintro k a w ⟨x87, x88, h1, ha, hI, hl89⟩
   rcases k with _ | k
   ·
    cases h1
   simp only [ref02_Of.l5] at h1
   refine CodT.of ?_ ha
   refine cQ ?_
   refine cQ ?_
   refine cR [0, 1] (by kernel_rfl) ?_
   refine oP (r := []) [0, 1] (S' := [(2, pb b1), (3, pb b5), (20, pb b84), (21, iv x87), (195, .bool (decide (x87 < 32)))]) (by kernel_rfl) ?_
   refine oD ?_
   refine qT ?_
   by_cases hb90 : (decide (x87 < 32)) = true
   ·
    rw [if_pos hb90] at h1
    refine CodT.yes' (b := decide (x87 < 32)) (by kernel_rfl) hb90 ?_
    refine CodT.skip ?_
    refine qT ?_
    refine cQ ?_
    refine CodT.block ?_
    refine cQ ?_
    refine cR [0, 1, 2, 3, 4] (by kernel_rfl) ?_
    refine oP (r := [2, 3, 4]) [0, 1] (S' := [(2, pb b1), (3, pb b5), (20, pb b84), (21, iv x87), (199, iv (wi64 (x87.tdiv 4)))]) (by kernel_rfl) ?_
    obtain ⟨hg91, h1⟩ := guardS h1
    refine oC (Does.yi (Yl.indexArr (d := 200) (T := 90) (k := .i64) (j := wi64 (x87.tdiv 4)) (g := b5) (o := 0) (by kernel_rfl) Go.Proofs.Tryd.underlying90 ty89 hg91.1 hg91.2) hI ?_)
    refine oC (Does.yi (Yl.load (d := 201) (T := 89) (v := .int .u32 (gt x12 (wi64 (x87.tdiv 4)))) (by kernel_rfl) (ldB ty89 (l := cA (Value.int .u32) x12) (o := 0 + (wi64 (x87.tdiv 4)).toNat * 1) (v := .int .u32 (gt x12 (wi64 (x87.tdiv 4)))) (pick2 _ _ _) (arr_get _ _ hg91.1 (by have := And.intro hl13 hg91.2; omega)))) hI ?_)
    refine oP (r := []) [4] (S' := [(2, pb b1), (3, pb b5), (20, pb b84), (21, iv x87), (22, .int .u32 (gt x12 (wi64 (x87.tdiv 4))))]) (by kernel_rfl) ?_
    refine oD ?_
    refine qT ?_
    refine cQ ?_
    refine cQ ?_
    refine cR [0, 1, 2] (by kernel_rfl) ?_
    refine oP (r := []) [0, 1, 2] (S' := [(2, pb b1), (3, pb b5), (20, pb b84), (21, iv x87), (22, .int .u32 (gt x12 (wi64 (x87.tdiv 4)))), (23, iv (x87.tmod 4))]) (by kernel_rfl) ?_
    refine oD ?_
    refine qT ?_
    obtain ⟨r2, h2, h1⟩ := bindS h1
    refine CodT.meet1 (fun a w => ∃ (x92 : Int), x92 = r2 ∧ Fr 216 [(2, pb b1), (3, pb b5), (20, pb b84), (21, iv x87), (22, .int .u32 x92)] a ∧ Inv w0 Z w (star (pt b84 (.cells (cA (Value.int .u8) x88).toArray 51 (0, 0))) (star (pt b5 (.cells (cA (Value.int .u32) x12).toArray 90 (0, 0))) (star (pt b1 (.cells (cA (Value.int .u8) (List.replicate 32 (0 : Int))).toArray 51 (0, 0))) A)))) ?_ ?_
    ·
     refine CodT.block ?_
     refine (fun a ha => wp_loopN (fun k a w => ∃ (x93 : Int) (x94 : Int), ref02_Of.l6 k x93 x94 = some r2 ∧ Fr 216 [(2, pb b1), (3, pb b5), (20, pb b84), (21, iv x87), (22, .int .u32 x93), (23, iv x94)] a ∧ Inv w0 Z w (star (pt b84 (.cells (cA (Value.int .u8) x88).toArray 51 (0, 0))) (star (pt b5 (.cells (cA (Value.int .u32) x12).toArray 90 (0, 0))) (star (pt b1 (.cells (cA (Value.int .u8) (List.replicate 32 (0 : Int))).toArray 51 (0, 0))) A)))) ?_ FU a w ⟨gt x12 (wi64 (x87.tdiv 4)), x87.tmod 4, h2, ha.keep [2, 3, 20, 21, 22, 23] (by kernel_rfl), hI⟩)
     clear h2 hI
     rintro k a w ⟨x93, x94, h2, ha, hI⟩
     rcases k with _ | k
     ·
      cases h2
     simp only [ref02_Of.l6] at h2
     refine CodT.of ?_ ha
     refine cQ ?_
     refine cQ ?_
     refine cR [0, 1] (by kernel_rfl) ?_
     refine oP (r := []) [0, 1] (S' := [(2, pb b1), (3, pb b5), (20, pb b84), (21, iv x87), (22, .int .u32 x93), (23, iv x94), (205, .bool (decide (x94 < 3)))]) (by kernel_rfl) ?_
     refine oD ?_
     refine qT ?_
     by_cases hb95 : (decide (x94 < 3)) = true
     ·
      rw [if_pos hb95] at h2
      refine CodT.yes' (b := decide (x94 < 3)) (by kernel_rfl) hb95 ?_
      refine CodT.skip ?_
      refine qT ?_
      refine cQ ?_
      refine CodT.block ?_
      refine cR [0, 1, 2] (by kernel_rfl) ?_
      refine oP (r := []) [0, 1, 2] (S' := [(2, pb b1), (3, pb b5), (20, pb b84), (21, iv x87), (22, .int .u32 (wu32 (x93.tdiv 256))), (23, iv x94)]) (by kernel_rfl) ?_
      refine oD ?_
      refine Qn.block_normal ?_
      refine qT ?_
      refine cR [0, 1, 2] (by kernel_rfl) ?_
      refine oP (r := []) [0, 1, 2] (S' := [(2, pb b1), (3, pb b5), (20, pb b84), (21, iv x87), (22, .int .u32 (wu32 (x93.tdiv 256))), (23, iv (wi64 (x94 + 1)))]) (by kernel_rfl) ?_
      refine oD ?_
      exact Qn.thenJ fun a ha => ⟨k, Nat.lt_succ_self k, wu32 (x93.tdiv 256), wi64 (x94 + 1), h2, ha.keep [2, 3, 20, 21, 22, 23] (by kernel_rfl), hI⟩
     ·
      rw [if_neg hb95] at h2
      refine CodT.no' (b := decide (x94 < 3)) (by kernel_rfl) (by simpa using hb95) ?_
      refine CodT.exit ?_
      refine Qn.exit_then ?_
      refine Qn.exit_then ?_
      refine Qn.block ?_
      have e := someS h2
      subst e
      exact Qn.thenJ fun a ha => ⟨x93, rfl, ha.keep [2, 3, 20, 21, 22] (by kernel_rfl), hI⟩
    ·
     rintro a w ⟨x92, rfl, ha, hI⟩
     try dsimp only at h1
     refine Qn.of ?_ ha
     refine qT ?_
     refine cR [0, 1, 2, 3, 4, 5] (by kernel_rfl) ?_
     refine oP (r := [4, 5]) [0, 1, 2, 3] (S' := [(2, pb b1), (3, pb b5), (20, pb b84), (21, iv x87), (210, iv x87), (213, .int .u8 (wu8 (x92.tmod 256)))]) (by kernel_rfl) ?_
     obtain ⟨hg96, h1⟩ := guardS h1
     refine oC (Does.yi (Yl.indexArr (d := 214) (T := 51) (k := .i64) (j := x87) (g := b84) (o := 0) (by kernel_rfl) Go.Proofs.Tryd.underlying51 ty5 hg96.1 hg96.2) hI ?_)
     refine oC (Does.storeArr (e := (Value.int .u8)) (xs := x88) (u := wu8 (x92.tmod 256)) (T := 5) (b := b84) (j := x87) (by kernel_rfl) ty5 hI (by kernel_rfl) (by kernel_rfl) hg96.1 (by have := And.intro hl89 hg96.2; omega) ?_)
     intro w hI
     refine oD ?_
     refine Qn.block_normal ?_
     refine qT ?_
     refine cR [0, 1, 2] (by kernel_rfl) ?_
     refine oP (r := []) [0, 1, 2] (S' := [(2, pb b1), (3, pb b5), (20, pb b84), (21, iv (wi64 (x87 + 1)))]) (by kernel_rfl) ?_
     refine oD ?_
     exact Qn.thenJ fun a ha => ⟨k, Nat.lt_succ_self k, wi64 (x87 + 1), st x88 x87 (wu8 (x92.tmod 256)), h1, ha.keep [2, 3, 20, 21] (by kernel_rfl), hI, ((st_length _ _ _).trans hl89)⟩
   ·
    rw [if_neg hb90] at h1
    refine CodT.no' (b := decide (x87 < 32)) (by kernel_rfl) (by simpa using hb90) ?_
    refine CodT.exit ?_
    refine Qn.exit_then ?_
    refine Qn.exit_then ?_
    refine Qn.block ?_
    have hI := hI.mono (pick2 _ _ _)
    have hI := hI.drop
    have e := someS h1
    subst e
    exact Qn.thenJ fun a ha => ⟨x88, rfl, ha.keep [2, 20] (by kernel_rfl), hI, hl89⟩
  ·
   rintro a w ⟨x85, rfl, ha, hI, hl86⟩
   try dsimp only at h0
   refine Qn.of ?_ ha
   refine qT ?_
   refine cQ ?_
   refine cR [0, 1] (by kernel_rfl) ?_
   refine oC (Does.yi (Yl.load (d := 215) (T := 51) (v := .agg (cA (Value.int .u8) x85).toArray) (by kernel_rfl) (ldBN ty51 (l := cA (Value.int .u8) x85) (o := 0) (cs := cA (Value.int .u8) x85) (ent_refl _) ((cA_length _ _).trans hl86) (whole _ _ ((cA_length _ _).trans hl86)))) hI ?_)
   have hI := hI.mono (pick2 _ _ _)
   refine oC (Does.storeAll (T := 51) (b := b1) (n := 32) (xs := (List.replicate 32 (0 : Int))) (ys := x85) (by kernel_rfl) ty51 hI (fun _ => rfl) (by kernel_rfl) hl86 ?_)
   intro w hI
   refine oD ?_
   refine qT ?_
   refine CodT.ret ?_
   have hL97 := (ldBN ty51 (l := cA (Value.int .u8) x85) (o := 0) (cs := cA (Value.int .u8) x85) (ent_refl _) ((cA_length _ _).trans hl86) (whole _ _ ((cA_length _ _).trans hl86))) w hI
   have hI := hI.drop
   have hI := hI.drop
   have e := someS h0
   subst e
   refine qK [2] (S' := [(2, pb b1)]) (by kernel_rfl) ?_
   exact post_ret (v := .agg (cA (Value.int .u8) x85).toArray) (fun a ha => RunRes.run (vs := [.agg (cA (Value.int .u8) x85).toArray]) (.cell (t := 2) (T := 51) (ad := ⟨b1, 0, none⟩) (by kernel_rfl) hL97 .nil) ha (by kernel_rfl)) ⟨rfl, hl86, hI⟩
/-- cenotaph/cenotaphref07.Extend -/
theorem c53 (w0 w : World) (Z : Hp) (A : HP) (hI : Inv w0 Z w A) (hT : Tabs Z) (ud : Int) (ue : ByteArray) (ub : ByteArray) (uf : Bool) (ug : Int) (ua : Option Addr) (uh : Nat) (uc : (List ByteArray)) (ui : RdS Z cS 1 ua uh uc) (a1 : Int) (r : (Int × ByteArray × ByteArray × Bool × Int × (List ByteArray) × Int)) (h0 : ref07_Extend ud ue ub uf ug uc a1 = some r) :
  Calls prog 53 #[.agg ([iv ud, .string ue, .string ub, .bool uf, iv ug, .slice ua uc.length uh] : LV).toArray, iv a1] w (fun e w' => ∃ (A1 : Option Addr) (c1 : Nat) (Z' : Hp), Z.le Z' ∧ e = .returned (.tuple #[.agg ([iv r.1, .string r.2.1, .string r.2.2.1, .bool r.2.2.2.1, iv r.2.2.2.2.1, .slice A1 r.2.2.2.2.2.1.length c1] : LV).toArray, iv r.2.2.2.2.2.2]) ∧ RdS Z' cS 1 A1 c1 r.2.2.2.2.2.1 ∧ Inv w0 Z' w' A) := by
 have e4 := calls_intro (R := (fun e w' => ∃ (A1 : Option Addr) (c1 : Nat) (Z' : Hp), Z.le Z' ∧ e = .returned (.tuple #[.agg ([iv r.1, .string r.2.1, .string r.2.2.1, .bool r.2.2.2.1, iv r.2.2.2.2.1, .slice A1 r.2.2.2.2.2.1.length c1] : LV).toArray, iv r.2.2.2.2.2.2]) ∧ RdS Z' cS 1 A1 c1 r.2.2.2.2.2.1 ∧ Inv w0 Z' w' A)) (w := w) (args := [.agg ([iv ud, .string ue, .string ub, .bool uf, iv ug, .slice ua uc.length uh] : LV).toArray, iv a1]) (fn := Go.Proofs.Tryd.f53) 25 Go.Proofs.Tryd.func53 (by rfl) Go.Proofs.Tryd.ntmps53 (by kernel_rfl)
 refine e4 ?_
 clear e4
 unfold ref07_Extend at h0
 refine cQ ?_
 refine cR [0, 1, 2] (by kernel_rfl) ?_
 refine oC (Does.boxL (d := 2) (T := 27) (v := .agg ([iv ud, .string ue, .string ub, .bool uf, iv ug, .slice ua uc.length uh] : LV).toArray) ([iv ud, .string ue, .string ub, .bool uf, iv ug, .slice ua uc.length uh] : LV) (by kernel_rfl) hI (by kernel_rfl) ?_)
 intro b1 w hI
 refine oC (Does.allocL (d := 4) (T := 27) ((([iv 0, .string (⟨#[]⟩ : ByteArray), .string (⟨#[]⟩ : ByteArray), .bool false, iv 0, .slice none 0 0] : LV))) (by kernel_rfl) ty27 hI (by kernel_rfl) ?_)
 intro b2 w hI
 refine oP (r := []) [2] (S' := [(1, iv a1), (2, pb b1), (4, pb b2)]) (by kernel_rfl) ?_
 refine oD ?_
 refine qT ?_
 refine cQ ?_
 refine cQ ?_
 refine cR [0, 1, 2] (by kernel_rfl) ?_
 refine oP (r := [1, 2]) [0] (S' := [(1, iv a1), (2, pb b1), (4, pb b2), (6, .pointer (some ⟨b1, 3, none⟩))]) (by kernel_rfl) ?_
 refine oC (Does.yi (Yl.load (d := 7) (T := 4) (v := .bool uf) (by kernel_rfl) (ldB ty4 (l := ([iv ud, .string ue, .string ub, .bool uf, iv ug, .slice ua uc.length uh] : LV)) (o := 3) (v := .bool uf) (pick2 _ _ _) (by kernel_rfl))) hI ?_)
 refine oP (r := []) [2] (S' := [(1, iv a1), (2, pb b1), (4, pb b2), (8, .bool (!uf))]) (by kernel_rfl) ?_
 refine oD ?_
 refine qT ?_
 by_cases hb3 : (!uf) = true
 ·
  rw [if_pos hb3] at h0
  refine CodT.yes' (b := !uf) (by kernel_rfl) hb3 ?_
  refine cQ ?_
  refine cR [0, 1, 2] (by kernel_rfl) ?_
  refine oC (Does.yi (Yl.load (d := 9) (T := 27) (v := .agg ([iv ud, .string ue, .string ub, .bool uf, iv ug, .slice ua uc.length uh] : LV).toArray) (by kernel_rfl) (ldBN ty27 (l := ([iv ud, .string ue, .string ub, .bool uf, iv ug, .slice ua uc.length uh] : LV)) (o := 0) (cs := ([iv ud, .string ue, .string ub, .bool uf, iv ug, .slice ua uc.length uh] : LV)) (pick2 _ _ _) (by kernel_rfl) (whole _ _ (by kernel_rfl)))) hI ?_)
  refine oC (dS (T := 27) (b := b2) (o := 0) (v := .agg ([iv ud, .string ue, .string ub, .bool uf, iv ug, .slice ua uc.length uh] : LV).toArray) (l := (([iv 0, .string (⟨#[]⟩ : ByteArray), .string (⟨#[]⟩ : ByteArray), .bool false, iv 0, .slice none 0 0] : LV))) (vs := ([iv ud, .string ue, .string ub, .bool uf, iv ug, .slice ua uc.length uh] : LV)) (L' := ([iv ud, .string ue, .string ub, .bool uf, iv ug, .slice ua uc.length uh] : LV)) (by kernel_rfl) ty27 hI (by kernel_rfl) (by kernel_rfl) (by kernel_rfl) (by kernel_rfl) (by kernel_rfl) ?_)
  intro w hI
  refine oP (r := []) [2] (S' := [(4, pb b2), (5, iv 6)]) (by kernel_rfl) ?_
  refine oD ?_
  refine qT ?_
  refine CodT.ret ?_
  refine Qn.ret_then ?_
  have hL4 := (ldBN ty27 (l := ([iv ud, .string ue, .string ub, .bool uf, iv ug, .slice ua uc.length uh] : LV)) (o := 0) (cs := ([iv ud, .string ue, .string ub, .bool uf, iv ug, .slice ua uc.length uh] : LV)) (ent_refl _) (by kernel_rfl) (whole _ _ (by kernel_rfl))) w hI
  have hI := hI.drop
  have hI := hI.drop
  have e := someS h0
  subst e
  refine qK [4, 5] (S' := [(4, pb b2), (5, iv 6)]) (by kernel_rfl) ?_
  exact post_ret (v := .tuple #[.agg ([iv ud, .string ue, .string ub, .bool uf, iv ug, .slice ua uc.length uh] : LV).toArray, iv 6]) (fun a ha => RunRes.run (vs := [.agg ([iv ud, .string ue, .string ub, .bool uf, iv ug, .slice ua uc.length uh] : LV).toArray, iv 6]) (.cell (t := 4) (T := 27) (ad := ⟨b2, 0, none⟩) (by kernel_rfl) hL4 (.tmp (t := 5) (by kernel_rfl) .nil)) ha (by kernel_rfl)) ⟨ua, uh, Z, Hp.le_refl _, rfl, ui, hI⟩
 ·
  rw [if_neg hb3] at h0
  refine CodT.no' (b := !uf) (by kernel_rfl) (by simpa using hb3) ?_
  refine CodT.skip ?_
  refine qT ?_
  refine cQ ?_
  obtain ⟨r1, h1, h0⟩ := bindS h0
  refine CodT.meet (fun a w => ∃ (x5 : Bool), x5 = r1 ∧ Fr 25 [(1, iv a1), (2, pb b1), (4, pb b2), (15, .bool x5)] a ∧ Inv w0 Z w (star (pt b2 (.cells ((([iv 0, .string (⟨#[]⟩ : ByteArray), .string (⟨#[]⟩ : ByteArray), .bool false, iv 0, .slice none 0 0] : LV))).toArray 27 (0, 0))) (star (pt b1 (.cells ([iv ud, .string ue, .string ub, .bool uf, iv ug, .slice ua uc.length uh] : LV).toArray 27 (0, 0))) A))) ?_ ?_
  ·
   refine cR [0, 1, 2, 3, 4, 5] (by kernel_rfl) ?_
   refine oP (r := [3, 4, 5]) [0, 1, 2] (S' := [(1, iv a1), (2, pb b1), (4, pb b2), (12, .bool (decide (a1 < 0)))]) (by kernel_rfl) ?_
   by_cases hb6 : (decide (a1 < 0)) = true
   ·
    rw [if_pos hb6] at h1
    refine oK [1, 2, 4, 12] (S' := [(1, iv a1), (2, pb b1), (4, pb b2), (12, .bool true)]) (by (try simp only [hb6]); kernel_rfl) ?_
    refine oP (r := []) [3, 4, 5] (S' := [(1, iv a1), (2, pb b1), (4, pb b2), (15, .bool true)]) (by kernel_rfl) ?_
    refine oD ?_
    have e := someS h1
    subst e
    exact Qn.thenJ fun a ha => ⟨true, rfl, ha.keep [1, 2, 4, 15] (by kernel_rfl), hI⟩
   ·
    rw [if_neg hb6] at h1
    have hb6 : (decide (a1 < 0)) = false := by simpa using hb6
    refine oK [1, 2, 4, 12] (S' := [(1, iv a1), (2, pb b1), (4, pb b2), (12, .bool false)]) (by (try simp only [hb6]); kernel_rfl) ?_
    refine oP (r := []) [3, 4, 5] (S' := [(1, iv a1), (2, pb b1), (4, pb b2), (15, .bool (decide (a1 > 1099511627776)))]) (by kernel_rfl) ?_
    refine oD ?_
    have e := someS h1
    subst e
    exact Qn.thenJ fun a ha => ⟨decide (a1 > 1099511627776), rfl, ha.keep [1, 2, 4, 15] (by kernel_rfl), hI⟩
  ·
   rintro a w ⟨x5, rfl, ha, hI⟩
   try dsimp only at h0
   refine CodT.of ?_ ha
   by_cases hb7 : x5 = true
   ·
    rw [if_pos hb7] at h0
    refine CodT.yes' (b := x5) (by kernel_rfl) hb7 ?_
    refine cQ ?_
    refine cR [0, 1, 2] (by kernel_rfl) ?_
    refine oC (Does.yi (Yl.load (d := 16) (T := 27) (v := .agg ([iv ud, .string ue, .string ub, .bool uf, iv ug, .slice ua uc.length uh] : LV).toArray) (by kernel_rfl) (ldBN ty27 (l := ([iv ud, .string ue, .string ub, .bool uf, iv ug, .slice ua uc.length uh] : LV)) (o := 0) (cs := ([iv ud, .string ue, .string ub, .bool uf, iv ug, .slice ua uc.length uh] : LV)) (pick2 _ _ _) (by kernel_rfl) (whole _ _ (by kernel_rfl)))) hI ?_)
    refine oC (dS (T := 27) (b := b2) (o := 0) (v := .agg ([iv ud, .string ue, .string ub, .bool uf, iv ug, .slice ua uc.length uh] : LV).toArray) (l := (([iv 0, .string (⟨#[]⟩ : ByteArray), .string (⟨#[]⟩ : ByteArray), .bool false, iv 0, .slice none 0 0] : LV))) (vs := ([iv ud, .string ue, .string ub, .bool uf, iv ug, .slice ua uc.length uh] : LV)) (L' := ([iv ud, .string ue, .string ub, .bool uf, iv ug, .slice ua uc.length uh] : LV)) (by kernel_rfl) ty27 hI (by kernel_rfl) (by kernel_rfl) (by kernel_rfl) (by kernel_rfl) (by kernel_rfl) ?_)
    intro w hI
    refine oP (r := []) [2] (S' := [(4, pb b2), (5, iv 1)]) (by kernel_rfl) ?_
    refine oD ?_
    refine qT ?_
    refine CodT.ret ?_
    refine Qn.ret_then ?_
    have hL8 := (ldBN ty27 (l := ([iv ud, .string ue, .string ub, .bool uf, iv ug, .slice ua uc.length uh] : LV)) (o := 0) (cs := ([iv ud, .string ue, .string ub, .bool uf, iv ug, .slice ua uc.length uh] : LV)) (ent_refl _) (by kernel_rfl) (whole _ _ (by kernel_rfl))) w hI
    have hI := hI.drop
    have hI := hI.drop
    have e := someS h0
    subst e
    refine qK [4, 5] (S' := [(4, pb b2), (5, iv 1)]) (by kernel_rfl) ?_
    exact post_ret (v := .tuple #[.agg ([iv ud, .string ue, .string ub, .bool uf, iv ug, .slice ua uc.length uh] : LV).toArray, iv 1]) (fun a ha => RunRes.run (vs := [.agg ([iv ud, .string ue, .string ub, .bool uf, iv ug, .slice ua uc.length uh] : LV).toArray, iv 1]) (.cell (t := 4) (T := 27) (ad := ⟨b2, 0, none⟩) (by kernel_rfl) hL8 (.tmp (t := 5) (by kernel_rfl) .nil)) ha (by kernel_rfl)) ⟨ua, uh, Z, Hp.le_refl _, rfl, ui, hI⟩
   ·
    rw [if_neg hb7] at h0
    refine CodT.no' (b := x5) (by kernel_rfl) (by simpa using hb7) ?_
    refine CodT.skip ?_
    refine qT ?_
    refine cQ ?_
    refine cQ ?_
    refine cR [0, 1, 2, 3] (by kernel_rfl) ?_
    refine oP (r := [2, 3]) [0, 1] (S' := [(1, iv a1), (2, pb b1), (4, pb b2), (17, iv a1), (18, .pointer (some ⟨b1, 4, none⟩))]) (by kernel_rfl) ?_
    refine oC (Does.yi (Yl.load (d := 19) (T := 3) (v := iv ug) (by kernel_rfl) (ldB ty3 (l := ([iv ud, .string ue, .string ub, .bool uf, iv ug, .slice ua uc.length uh] : LV)) (o := 4) (v := iv ug) (pick2 _ _ _) (by kernel_rfl))) hI ?_)
    refine oP (r := []) [3] (S' := [(1, iv a1), (2, pb b1), (4, pb b2), (20, .bool (decide (a1 < ug)))]) (by kernel_rfl) ?_
    refine oD ?_
    refine qT ?_
    by_cases hb9 : (decide (a1 < ug)) = true
    ·
     rw [if_pos hb9] at h0
     refine CodT.yes' (b := decide (a1 < ug)) (by kernel_rfl) hb9 ?_
     refine cQ ?_
     refine cR [0, 1, 2] (by kernel_rfl) ?_
     refine oC (Does.yi (Yl.load (d := 21) (T := 27) (v := .agg ([iv ud, .string ue, .string ub, .bool uf, iv ug, .slice ua uc.length uh] : LV).toArray) (by kernel_rfl) (ldBN ty27 (l := ([iv ud, .string ue, .string ub, .bool uf, iv ug, .slice ua uc.length uh] : LV)) (o := 0) (cs := ([iv ud, .string ue, .string ub, .bool uf, iv ug, .slice ua uc.length uh] : LV)) (pick2 _ _ _) (by kernel_rfl) (whole _ _ (by kernel_rfl)))) hI ?_)
     refine oC (dS (T := 27) (b := b2) (o := 0) (v := .agg ([iv ud, .string ue, .string ub, .bool uf, iv ug, .slice ua uc.length uh] : LV).toArray) (l := (([iv 0, .string (⟨#[]⟩ : ByteArray), .string (⟨#[]⟩ : ByteArray), .bool false, iv 0, .slice none 0 0] : LV))) (vs := ([iv ud, .string ue, .string ub, .bool uf, iv ug, .slice ua uc.length uh] : LV)) (L' := ([iv ud, .string ue, .string ub, .bool uf, iv ug, .slice ua uc.length uh] : LV)) (by kernel_rfl) ty27 hI (by kernel_rfl) (by kernel_rfl) (by kernel_rfl) (by kernel_rfl) (by kernel_rfl) ?_)
     intro w hI
     refine oP (r := []) [2] (S' := [(4, pb b2), (5, iv 7)]) (by kernel_rfl) ?_
     refine oD ?_
     refine qT ?_
     refine CodT.ret ?_
     refine Qn.ret_then ?_
     have hL10 := (ldBN ty27 (l := ([iv ud, .string ue, .string ub, .bool uf, iv ug, .slice ua uc.length uh] : LV)) (o := 0) (cs := ([iv ud, .string ue, .string ub, .bool uf, iv ug, .slice ua uc.length uh] : LV)) (ent_refl _) (by kernel_rfl) (whole _ _ (by kernel_rfl))) w hI
     have hI := hI.drop
     have hI := hI.drop
     have e := someS h0
     subst e
     refine qK [4, 5] (S' := [(4, pb b2), (5, iv 7)]) (by kernel_rfl) ?_
     exact post_ret (v := .tuple #[.agg ([iv ud, .string ue, .string ub, .bool uf, iv ug, .slice ua uc.length uh] : LV).toArray, iv 7]) (fun a ha => RunRes.run (vs := [.agg ([iv ud, .string ue, .string ub, .bool uf, iv ug, .slice ua uc.length uh] : LV).toArray, iv 7]) (.cell (t := 4) (T := 27) (ad := ⟨b2, 0, none⟩) (by kernel_rfl) hL10 (.tmp (t := 5) (by kernel_rfl) .nil)) ha (by kernel_rfl)) ⟨ua, uh, Z, Hp.le_refl _, rfl, ui, hI⟩
    ·
     rw [if_neg hb9] at h0
     refine CodT.no' (b := decide (a1 < ug)) (by kernel_rfl) (by simpa using hb9) ?_
     refine CodT.skip ?_
     refine qT ?_
     refine cQ ?_
     refine cR [0, 1, 2] (by kernel_rfl) ?_
     refine oP (r := [2]) [0, 1] (S' := [(2, pb b1), (4, pb b2), (22, iv a1), (23, .pointer (some ⟨b1, 4, none⟩))]) (by kernel_rfl) ?_
     have hI := hI.mono (pick2 _ _ _)
     refine oC (dS (T := 3) (b := b1) (o := 4) (v := iv a1) (l := ([iv ud, .string ue, .string ub, .bool uf, iv ug, .slice ua uc.length uh] : LV)) (vs := ([iv a1] : LV)) (L' := ([iv ud, .string ue, .string ub, .bool uf, iv a1, .slice ua uc.length uh] : LV)) (by kernel_rfl) ty3 hI (by kernel_rfl) (by kernel_rfl) (by kernel_rfl) (by kernel_rfl) (by kernel_rfl) ?_)
     intro w hI
     refine oD ?_
     refine qT ?_
     refine cQ ?_
     refine cR [0, 1, 2] (by kernel_rfl) ?_
     refine oC (Does.yi (Yl.load (d := 24) (T := 27) (v := .agg ([iv ud, .string ue, .string ub, .bool uf, iv a1, .slice ua uc.length uh] : LV).toArray) (by kernel_rfl) (ldBN ty27 (l := ([iv ud, .string ue, .string ub, .bool uf, iv a1, .slice ua uc.length uh] : LV)) (o := 0) (cs := ([iv ud, .string ue, .string ub, .bool uf, iv a1, .slice ua uc.length uh] : LV)) (ent_refl _) (by kernel_rfl) (whole _ _ (by kernel_rfl)))) hI ?_)
     have hI := hI.mono (pick2 _ _ _)
     refine oC (dS (T := 27) (b := b2) (o := 0) (v := .agg ([iv ud, .string ue, .string ub, .bool uf, iv a1, .slice ua uc.length uh] : LV).toArray) (l := (([iv 0, .string (⟨#[]⟩ : ByteArray), .string (⟨#[]⟩ : ByteArray), .bool false, iv 0, .slice none 0 0] : LV))) (vs := ([iv ud, .string ue, .string ub, .bool uf, iv a1, .slice ua uc.length uh] : LV)) (L' := ([iv ud, .string ue, .string ub, .bool uf, iv a1, .slice ua uc.length uh] : LV)) (by kernel_rfl) ty27 hI (by kernel_rfl) (by kernel_rfl) (by kernel_rfl) (by kernel_rfl) (by kernel_rfl) ?_)
     intro w hI
     refine oP (r := []) [2] (S' := [(4, pb b2), (5, iv 0)]) (by kernel_rfl) ?_
     refine oD ?_
     refine qT ?_
     refine CodT.ret ?_
     have hL11 := (ldBN ty27 (l := ([iv ud, .string ue, .string ub, .bool uf, iv a1, .slice ua uc.length uh] : LV)) (o := 0) (cs := ([iv ud, .string ue, .string ub, .bool uf, iv a1, .slice ua uc.length uh] : LV)) (ent_refl _) (by kernel_rfl) (whole _ _ (by kernel_rfl))) w hI
     have hI := hI.drop
     have hI := hI.drop
     have e := someS h0
     subst e
     refine qK [4, 5] (S' := [(4, pb b2), (5, iv 0)]) (by kernel_rfl) ?_
     exact post_ret (v := .tuple #[.agg ([iv ud, .string ue, .string ub, .bool uf, iv a1, .slice ua uc.length uh] : LV).toArray, iv 0]) (fun a ha => RunRes.run (vs := [.agg ([iv ud, .string ue, .string ub, .bool uf, iv a1, .slice ua uc.length uh] : LV).toArray, iv 0]) (.cell (t := 4) (T := 27) (ad := ⟨b2, 0, none⟩) (by kernel_rfl) hL11 (.tmp (t := 5) (by kernel_rfl) .nil)) ha (by kernel_rfl)) ⟨ua, uh, Z, Hp.le_refl _, rfl, ui, hI⟩
end Go.Cen
