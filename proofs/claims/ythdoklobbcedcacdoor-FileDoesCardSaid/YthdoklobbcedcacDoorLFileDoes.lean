/- The walk of the law FileDoes, printed by a program of ours. -/
import Derived.Test.YthdoklobbcedcacDoorWx5
set_option linter.unusedVariables false
set_option linter.unusedSimpArgs false
namespace Go.Cen
set_option maxRecDepth 100000
set_option maxHeartbeats 4000000
/-- cenotaph/cenotaphlaw08.FileDoes -/
theorem c9 (w0 w : World) (Z : Hp) (A : HP) (hI : Inv w0 Z w A) (hT : Tabs Z) (ud : Int) (ue : ByteArray) (ub : ByteArray) (uf : Bool) (ug : Int) (ua : Option Addr) (uh : Nat) (uc : (List ByteArray)) (ui : RdS Z cS 1 ua uh uc) (a1 : ApiOp) (a2 : Int) (r : Bool) (h0 : law08_FileDoes ud ue ub uf ug uc a1 a2 = some r) :
  Calls prog 9 #[.agg ([iv ud, .string ue, .string ub, .bool uf, iv ug, .slice ua uc.length uh] : LV).toArray, .agg (c_ApiOp a1).toArray, iv a2] w (fun e w' => e = .returned (.bool r) ∧ Inv w0 Z w' A) := by
 have e4 := calls_intro (R := (fun e w' => e = .returned (.bool r) ∧ Inv w0 Z w' A)) (w := w) (args := [.agg ([iv ud, .string ue, .string ub, .bool uf, iv ug, .slice ua uc.length uh] : LV).toArray, .agg (c_ApiOp a1).toArray, iv a2]) (fn := Go.Proofs.Tryd.f9) 84 Go.Proofs.Tryd.func9 (by rfl) Go.Proofs.Tryd.ntmps9 (by kernel_rfl)
 refine e4 ?_
 clear e4
 unfold law08_FileDoes at h0
 refine cQ ?_
 refine cR [0, 1, 2] (by kernel_rfl) ?_
 refine oC (Does.boxL (d := 3) (T := 27) (v := .agg ([iv ud, .string ue, .string ub, .bool uf, iv ug, .slice ua uc.length uh] : LV).toArray) ([iv ud, .string ue, .string ub, .bool uf, iv ug, .slice ua uc.length uh] : LV) (by kernel_rfl) hI (by kernel_rfl) ?_)
 intro b1 w hI
 refine oC (Does.boxL (d := 4) (T := 48) (v := .agg (c_ApiOp a1).toArray) (c_ApiOp a1) (by kernel_rfl) hI (by kernel_rfl) ?_)
 intro b2 w hI
 refine oP (r := []) [2] (S' := [(2, iv a2), (3, pb b1), (4, pb b2)]) (by kernel_rfl) ?_
 refine oD ?_
 refine qT ?_
 refine cQ ?_
 refine cR [0, 1] (by kernel_rfl) ?_
 obtain ⟨y4, hc3, h0⟩ := bindS h0
 try dsimp only at h0
 refine oC (Does.call (d := some 19) (n := 26) (vs := []) (by kernel_rfl) en26 (c26 w0 w _ _ hI hT _ hc3) ?_)
 rintro e w ⟨rfl, hI⟩
 refine ⟨_, rfl, ?_⟩
 refine oP (r := []) [1] (S' := [(2, iv a2), (3, pb b1), (4, pb b2), (7, .bool y4)]) (by kernel_rfl) ?_
 refine oD ?_
 refine qT ?_
 refine cQ ?_
 refine cQ ?_
 refine cR [0, 1] (by kernel_rfl) ?_
 refine oP (r := []) [0, 1] (S' := [(2, iv a2), (3, pb b1), (4, pb b2), (7, .bool y4), (21, .bool (!y4))]) (by kernel_rfl) ?_
 refine oD ?_
 refine qT ?_
 by_cases hb5 : (!y4) = true
 ·
  rw [if_pos hb5] at h0
  refine CodT.yes' (b := !y4) (by kernel_rfl) hb5 ?_
  refine cQ ?_
  refine cR [0] (by kernel_rfl) ?_
  refine oP (r := []) [0] (S' := [(6, .bool false)]) (by kernel_rfl) ?_
  refine oD ?_
  refine qT ?_
  refine CodT.ret ?_
  refine Qn.ret_then ?_
  have hI := hI.drop
  have hI := hI.drop
  have e := someS h0
  subst e
  refine qK [6] (S' := [(6, .bool false)]) (by kernel_rfl) ?_
  exact post_ret (v := .bool false) (fun a ha => RunRes.run (vs := [.bool false]) (.tmp (t := 6) (by kernel_rfl) .nil) ha (by kernel_rfl)) ⟨rfl, hI⟩
 ·
  rw [if_neg hb5] at h0
  refine CodT.no' (b := !y4) (by kernel_rfl) (by simpa using hb5) ?_
  refine CodT.skip ?_
  refine qT ?_
  refine cQ ?_
  refine cR [0, 1, 2, 3] (by kernel_rfl) ?_
  refine oC (Does.yi (Yl.load (d := 22) (T := 27) (v := .agg ([iv ud, .string ue, .string ub, .bool uf, iv ug, .slice ua uc.length uh] : LV).toArray) (by kernel_rfl) (ldBN ty27 (l := ([iv ud, .string ue, .string ub, .bool uf, iv ug, .slice ua uc.length uh] : LV)) (o := 0) (cs := ([iv ud, .string ue, .string ub, .bool uf, iv ug, .slice ua uc.length uh] : LV)) (pick2 _ _ _) (by kernel_rfl) (whole _ _ (by kernel_rfl)))) hI ?_)
  refine oC (Does.yi (Yl.load (d := 23) (T := 48) (v := .agg (c_ApiOp a1).toArray) (by kernel_rfl) (ldBN ty48 (l := c_ApiOp a1) (o := 0) (cs := c_ApiOp a1) (ent_refl _) (by kernel_rfl) (whole _ _ (by kernel_rfl)))) hI ?_)
  obtain ⟨y7, hc6, h0⟩ := bindS h0
  try dsimp only at h0
  refine oC (Does.call (d := some 24) (n := 27) (vs := [.agg ([iv ud, .string ue, .string ub, .bool uf, iv ug, .slice ua uc.length uh] : LV).toArray, .agg (c_ApiOp a1).toArray]) (by kernel_rfl) en27 (c27 w0 w _ _ hI hT ud ue ub uf ug ua uh uc ui a1 _ hc6) ?_)
  rintro e w ⟨rfl, hI⟩
  refine ⟨_, rfl, ?_⟩
  refine oP (r := []) [3] (S' := [(2, iv a2), (3, pb b1), (4, pb b2), (7, .bool y4), (8, .bool y7)]) (by kernel_rfl) ?_
  refine oD ?_
  refine qT ?_
  refine cQ ?_
  refine cQ ?_
  refine cR [0, 1] (by kernel_rfl) ?_
  refine oP (r := []) [0, 1] (S' := [(2, iv a2), (3, pb b1), (4, pb b2), (7, .bool y4), (26, .bool (!y7))]) (by kernel_rfl) ?_
  refine oD ?_
  refine qT ?_
  by_cases hb8 : (!y7) = true
  ·
   rw [if_pos hb8] at h0
   refine CodT.yes' (b := !y7) (by kernel_rfl) hb8 ?_
   refine cQ ?_
   refine cR [0, 1] (by kernel_rfl) ?_
   refine oP (r := []) [0, 1] (S' := [(6, .bool y4)]) (by kernel_rfl) ?_
   refine oD ?_
   refine qT ?_
   refine CodT.ret ?_
   refine Qn.ret_then ?_
   have hI := hI.drop
   have hI := hI.drop
   have e := someS h0
   subst e
   refine qK [6] (S' := [(6, .bool y4)]) (by kernel_rfl) ?_
   exact post_ret (v := .bool y4) (fun a ha => RunRes.run (vs := [.bool y4]) (.tmp (t := 6) (by kernel_rfl) .nil) ha (by kernel_rfl)) ⟨rfl, hI⟩
  ·
   rw [if_neg hb8] at h0
   refine CodT.no' (b := !y7) (by kernel_rfl) (by simpa using hb8) ?_
   refine CodT.skip ?_
   refine qT ?_
   refine cQ ?_
   refine cR [0, 1, 2, 3, 4, 5, 6, 7, 8, 9, 10, 11, 12] (by kernel_rfl) ?_
   refine oC (Does.yi (Yl.load (d := 29) (T := 27) (v := .agg ([iv ud, .string ue, .string ub, .bool uf, iv ug, .slice ua uc.length uh] : LV).toArray) (by kernel_rfl) (ldBN ty27 (l := ([iv ud, .string ue, .string ub, .bool uf, iv ug, .slice ua uc.length uh] : LV)) (o := 0) (cs := ([iv ud, .string ue, .string ub, .bool uf, iv ug, .slice ua uc.length uh] : LV)) (pick2 _ _ _) (by kernel_rfl) (whole _ _ (by kernel_rfl)))) hI ?_)
   refine oC (Does.yi (Yl.load (d := 30) (T := 48) (v := .agg (c_ApiOp a1).toArray) (by kernel_rfl) (ldBN ty48 (l := c_ApiOp a1) (o := 0) (cs := c_ApiOp a1) (ent_refl _) (by kernel_rfl) (whole _ _ (by kernel_rfl)))) hI ?_)
   refine oP (r := [3, 4, 5, 6, 7, 8, 9, 10, 11, 12]) [2] (S' := [(2, iv a2), (3, pb b1), (4, pb b2), (7, .bool y4), (29, .agg ([iv ud, .string ue, .string ub, .bool uf, iv ug, .slice ua uc.length uh] : LV).toArray), (30, .agg (c_ApiOp a1).toArray), (31, iv a2)]) (by kernel_rfl) ?_
   obtain ⟨⟨y10, y11, y12, y13, y14, y15, y19, y21⟩, hc9, h0⟩ := bindS h0
   try dsimp only at h0
   refine oC (Does.call (d := some 32) (n := 28) (vs := [.agg ([iv ud, .string ue, .string ub, .bool uf, iv ug, .slice ua uc.length uh] : LV).toArray, .agg (c_ApiOp a1).toArray, iv a2]) (by kernel_rfl) en28 (c28 w0 w _ _ hI hT ud ue ub uf ug ua uh uc ui a1 a2 _ hc9) ?_)
   rintro e w ⟨A16, cp17, Z22, hle23, rfl, hr18, hl20, hI⟩
   refine ⟨_, rfl, ?_⟩
   refine oP (r := [8, 9, 10, 11, 12]) [4, 5, 6, 7] (S' := [(2, iv a2), (3, pb b1), (4, pb b2), (7, .bool y4), (33, .agg ([iv y10, .string y11, .string y12, .bool y13, iv y14, .slice A16 y15.length cp17] : LV).toArray), (34, .agg (c_ApiEvent y19).toArray), (35, iv y21)]) (by kernel_rfl) ?_
   refine oC (Does.allocL (d := 9) (T := 27) ((([iv 0, .string (⟨#[]⟩ : ByteArray), .string (⟨#[]⟩ : ByteArray), .bool false, iv 0, .slice none 0 0] : LV))) (by kernel_rfl) ty27 hI (by kernel_rfl) ?_)
   intro b24 w hI
   refine oC (Does.allocL (d := 10) (T := 53) (c_ApiEvent (ApiEvent.mk 0 0 (⟨#[]⟩ : ByteArray) 0 0 (List.replicate 32 (0 : Int)))) (by kernel_rfl) ty53 hI (by kernel_rfl) ?_)
   intro b25 w hI
   have hI := hI.mono (pick2 _ _ _)
   refine oC (dS (T := 27) (b := b24) (o := 0) (v := .agg ([iv y10, .string y11, .string y12, .bool y13, iv y14, .slice A16 y15.length cp17] : LV).toArray) (l := (([iv 0, .string (⟨#[]⟩ : ByteArray), .string (⟨#[]⟩ : ByteArray), .bool false, iv 0, .slice none 0 0] : LV))) (vs := ([iv y10, .string y11, .string y12, .bool y13, iv y14, .slice A16 y15.length cp17] : LV)) (L' := ([iv y10, .string y11, .string y12, .bool y13, iv y14, .slice A16 y15.length cp17] : LV)) (by kernel_rfl) ty27 hI (by kernel_rfl) (by kernel_rfl) (by kernel_rfl) (by kernel_rfl) (by kernel_rfl) ?_)
   intro w hI
   have hI := hI.mono (pick2 _ _ _)
   refine oC (dS (T := 53) (b := b25) (o := 0) (v := .agg (c_ApiEvent y19).toArray) (l := c_ApiEvent (ApiEvent.mk 0 0 (⟨#[]⟩ : ByteArray) 0 0 (List.replicate 32 (0 : Int)))) (vs := c_ApiEvent y19) (L' := c_ApiEvent y19) (by kernel_rfl) ty53 hI (by kernel_rfl) (len_ApiEvent _ hl20) (by rw [(len_ApiEvent _ (by kernel_rfl))]; kernel_rfl) (ones_app _ _ (by kernel_rfl) (ones_cA _)) (lset_all _ _ (Eq.trans (len_ApiEvent _ hl20) (Eq.symm (len_ApiEvent _ (by kernel_rfl))))) ?_)
   intro w hI
   refine oP (r := []) [12] (S' := [(2, iv a2), (3, pb b1), (4, pb b2), (7, .bool y4), (9, pb b24), (10, pb b25), (11, iv y21)]) (by kernel_rfl) ?_
   refine oD ?_
   refine qT ?_
   refine cQ ?_
   refine cR [0, 1, 2, 3, 4, 5, 6, 7, 8, 9, 10, 11, 12] (by kernel_rfl) ?_
   refine oC (Does.yi (Yl.load (d := 37) (T := 27) (v := .agg ([iv ud, .string ue, .string ub, .bool uf, iv ug, .slice ua uc.length uh] : LV).toArray) (by kernel_rfl) (ldBN ty27 (l := ([iv ud, .string ue, .string ub, .bool uf, iv ug, .slice ua uc.length uh] : LV)) (o := 0) (cs := ([iv ud, .string ue, .string ub, .bool uf, iv ug, .slice ua uc.length uh] : LV)) (pick4 _ _ _ _ _) (by kernel_rfl) (whole _ _ (by kernel_rfl)))) hI ?_)
   refine oC (Does.yi (Yl.load (d := 38) (T := 48) (v := .agg (c_ApiOp a1).toArray) (by kernel_rfl) (ldBN ty48 (l := c_ApiOp a1) (o := 0) (cs := c_ApiOp a1) (pick3 _ _ _ _) (by kernel_rfl) (whole _ _ (by kernel_rfl)))) hI ?_)
   refine oP (r := [3, 4, 5, 6, 7, 8, 9, 10, 11, 12]) [2] (S' := [(3, pb b1), (4, pb b2), (7, .bool y4), (9, pb b24), (10, pb b25), (11, iv y21), (37, .agg ([iv ud, .string ue, .string ub, .bool uf, iv ug, .slice ua uc.length uh] : LV).toArray), (38, .agg (c_ApiOp a1).toArray), (39, iv a2)]) (by kernel_rfl) ?_
   obtain ⟨⟨y27, y28, y29, y30, y31, y32, y36, y38⟩, hc26, h0⟩ := bindS h0
   try dsimp only at h0
   refine oC (Does.call (d := some 40) (n := 29) (vs := [.agg ([iv ud, .string ue, .string ub, .bool uf, iv ug, .slice ua uc.length uh] : LV).toArray, .agg (c_ApiOp a1).toArray, iv a2]) (by kernel_rfl) en29 (c29 w0 w _ _ hI (hT.mono hle23) ud ue ub uf ug ua uh uc (ui.mono hle23) a1 a2 _ hc26) ?_)
   rintro e w ⟨A33, cp34, Z39, hle40, rfl, hr35, hl37, hI⟩
   refine ⟨_, rfl, ?_⟩
   refine oP (r := [8, 9, 10, 11, 12]) [4, 5, 6, 7] (S' := [(3, pb b1), (4, pb b2), (7, .bool y4), (9, pb b24), (10, pb b25), (11, iv y21), (41, .agg ([iv y27, .string y28, .string y29, .bool y30, iv y31, .slice A33 y32.length cp34] : LV).toArray), (42, .agg (c_ApiEvent y36).toArray), (43, iv y38)]) (by kernel_rfl) ?_
   refine oC (Does.allocL (d := 12) (T := 27) ((([iv 0, .string (⟨#[]⟩ : ByteArray), .string (⟨#[]⟩ : ByteArray), .bool false, iv 0, .slice none 0 0] : LV))) (by kernel_rfl) ty27 hI (by kernel_rfl) ?_)
   intro b41 w hI
   refine oC (Does.allocL (d := 13) (T := 53) (c_ApiEvent (ApiEvent.mk 0 0 (⟨#[]⟩ : ByteArray) 0 0 (List.replicate 32 (0 : Int)))) (by kernel_rfl) ty53 hI (by kernel_rfl) ?_)
   intro b42 w hI
   have hI := hI.mono (pick2 _ _ _)
   refine oC (dS (T := 27) (b := b41) (o := 0) (v := .agg ([iv y27, .string y28, .string y29, .bool y30, iv y31, .slice A33 y32.length cp34] : LV).toArray) (l := (([iv 0, .string (⟨#[]⟩ : ByteArray), .string (⟨#[]⟩ : ByteArray), .bool false, iv 0, .slice none 0 0] : LV))) (vs := ([iv y27, .string y28, .string y29, .bool y30, iv y31, .slice A33 y32.length cp34] : LV)) (L' := ([iv y27, .string y28, .string y29, .bool y30, iv y31, .slice A33 y32.length cp34] : LV)) (by kernel_rfl) ty27 hI (by kernel_rfl) (by kernel_rfl) (by kernel_rfl) (by kernel_rfl) (by kernel_rfl) ?_)
   intro w hI
   have hI := hI.mono (pick2 _ _ _)
   refine oC (dS (T := 53) (b := b42) (o := 0) (v := .agg (c_ApiEvent y36).toArray) (l := c_ApiEvent (ApiEvent.mk 0 0 (⟨#[]⟩ : ByteArray) 0 0 (List.replicate 32 (0 : Int)))) (vs := c_ApiEvent y36) (L' := c_ApiEvent y36) (by kernel_rfl) ty53 hI (by kernel_rfl) (len_ApiEvent _ hl37) (by rw [(len_ApiEvent _ (by kernel_rfl))]; kernel_rfl) (ones_app _ _ (by kernel_rfl) (ones_cA _)) (lset_all _ _ (Eq.trans (len_ApiEvent _ hl37) (Eq.symm (len_ApiEvent _ (by kernel_rfl))))) ?_)
   intro w hI
   refine oP (r := []) [12] (S' := [(3, pb b1), (4, pb b2), (7, .bool y4), (9, pb b24), (10, pb b25), (11, iv y21), (12, pb b41), (13, pb b42), (14, iv y38)]) (by kernel_rfl) ?_
   refine oD ?_
   refine qT ?_
   refine cQ ?_
   refine cR [0, 1, 2, 3, 4, 5, 6, 7, 8, 9] (by kernel_rfl) ?_
   refine oC (Does.yi (Yl.load (d := 45) (T := 27) (v := .agg ([iv ud, .string ue, .string ub, .bool uf, iv ug, .slice ua uc.length uh] : LV).toArray) (by kernel_rfl) (ldBN ty27 (l := ([iv ud, .string ue, .string ub, .bool uf, iv ug, .slice ua uc.length uh] : LV)) (o := 0) (cs := ([iv ud, .string ue, .string ub, .bool uf, iv ug, .slice ua uc.length uh] : LV)) (pick6 _ _ _ _ _ _ _) (by kernel_rfl) (whole _ _ (by kernel_rfl)))) hI ?_)
   refine oP (r := [2, 3, 4, 5, 6, 7, 8, 9]) [1] (S' := [(3, pb b1), (4, pb b2), (7, .bool y4), (9, pb b24), (10, pb b25), (11, iv y21), (12, pb b41), (13, pb b42), (14, iv y38), (45, .agg ([iv ud, .string ue, .string ub, .bool uf, iv ug, .slice ua uc.length uh] : LV).toArray), (46, .pointer (some ⟨b2, 2, none⟩))]) (by kernel_rfl) ?_
   refine oC (Does.yi (Yl.load (d := 47) (T := 9) (v := .string a1.Text) (by kernel_rfl) (ldB ty9 (l := c_ApiOp a1) (o := 2) (v := .string a1.Text) (pick5 _ _ _ _ _ _) (by kernel_rfl))) hI ?_)
   obtain ⟨⟨y44, y45, y46, y47, y48, y49, y53⟩, hc43, h0⟩ := bindS h0
   try dsimp only at h0
   refine oC (Does.call (d := some 48) (n := 30) (vs := [.agg ([iv ud, .string ue, .string ub, .bool uf, iv ug, .slice ua uc.length uh] : LV).toArray, .string a1.Text]) (by kernel_rfl) en30 (c30 w0 w _ _ hI (hT.mono (Hp.le_trans hle23 hle40)) ud ue ub uf ug ua uh uc (ui.mono (Hp.le_trans hle23 hle40)) a1.Text _ hc43) ?_)
   rintro e w ⟨A50, cp51, Z54, hle55, rfl, hr52, hI⟩
   refine ⟨_, rfl, ?_⟩
   refine oP (r := [7, 8, 9]) [4, 5, 6] (S' := [(3, pb b1), (4, pb b2), (7, .bool y4), (9, pb b24), (10, pb b25), (11, iv y21), (12, pb b41), (13, pb b42), (14, iv y38), (49, .agg ([iv y44, .string y45, .string y46, .bool y47, iv y48, .slice A50 y49.length cp51] : LV).toArray), (50, iv y53)]) (by kernel_rfl) ?_
   refine oC (Does.allocL (d := 15) (T := 27) ((([iv 0, .string (⟨#[]⟩ : ByteArray), .string (⟨#[]⟩ : ByteArray), .bool false, iv 0, .slice none 0 0] : LV))) (by kernel_rfl) ty27 hI (by kernel_rfl) ?_)
   intro b56 w hI
   refine oC (dS (T := 27) (b := b56) (o := 0) (v := .agg ([iv y44, .string y45, .string y46, .bool y47, iv y48, .slice A50 y49.length cp51] : LV).toArray) (l := (([iv 0, .string (⟨#[]⟩ : ByteArray), .string (⟨#[]⟩ : ByteArray), .bool false, iv 0, .slice none 0 0] : LV))) (vs := ([iv y44, .string y45, .string y46, .bool y47, iv y48, .slice A50 y49.length cp51] : LV)) (L' := ([iv y44, .string y45, .string y46, .bool y47, iv y48, .slice A50 y49.length cp51] : LV)) (by kernel_rfl) ty27 hI (by kernel_rfl) (by kernel_rfl) (by kernel_rfl) (by kernel_rfl) (by kernel_rfl) ?_)
   intro w hI
   refine oP (r := []) [9] (S' := [(3, pb b1), (4, pb b2), (7, .bool y4), (9, pb b24), (10, pb b25), (11, iv y21), (12, pb b41), (13, pb b42), (14, iv y38), (15, pb b56), (16, iv y53)]) (by kernel_rfl) ?_
   refine oD ?_
   refine qT ?_
   refine cQ ?_
   refine cR [0, 1, 2, 3, 4, 5, 6, 7, 8, 9] (by kernel_rfl) ?_
   refine oC (Does.yi (Yl.load (d := 52) (T := 27) (v := .agg ([iv ud, .string ue, .string ub, .bool uf, iv ug, .slice ua uc.length uh] : LV).toArray) (by kernel_rfl) (ldBN ty27 (l := ([iv ud, .string ue, .string ub, .bool uf, iv ug, .slice ua uc.length uh] : LV)) (o := 0) (cs := ([iv ud, .string ue, .string ub, .bool uf, iv ug, .slice ua uc.length uh] : LV)) (pick7 _ _ _ _ _ _ _ _) (by kernel_rfl) (whole _ _ (by kernel_rfl)))) hI ?_)
   refine oP (r := [2, 3, 4, 5, 6, 7, 8, 9]) [1] (S' := [(7, .bool y4), (9, pb b24), (10, pb b25), (11, iv y21), (12, pb b41), (13, pb b42), (14, iv y38), (15, pb b56), (16, iv y53), (52, .agg ([iv ud, .string ue, .string ub, .bool uf, iv ug, .slice ua uc.length uh] : LV).toArray), (53, .pointer (some ⟨b2, 2, none⟩))]) (by kernel_rfl) ?_
   refine oC (Does.yi (Yl.load (d := 54) (T := 9) (v := .string a1.Text) (by kernel_rfl) (ldB ty9 (l := c_ApiOp a1) (o := 2) (v := .string a1.Text) (pick6 _ _ _ _ _ _ _) (by kernel_rfl))) hI ?_)
   obtain ⟨⟨y58, y59, y60, y61, y62, y63, y67⟩, hc57, h0⟩ := bindS h0
   try dsimp only at h0
   refine oC (Does.call (d := some 55) (n := 31) (vs := [.agg ([iv ud, .string ue, .string ub, .bool uf, iv ug, .slice ua uc.length uh] : LV).toArray, .string a1.Text]) (by kernel_rfl) en31 (c31 w0 w _ _ hI (hT.mono (Hp.le_trans (Hp.le_trans hle23 hle40) hle55)) ud ue ub uf ug ua uh uc (ui.mono (Hp.le_trans (Hp.le_trans hle23 hle40) hle55)) a1.Text _ hc57) ?_)
   rintro e w ⟨A64, cp65, Z68, hle69, rfl, hr66, hI⟩
   refine ⟨_, rfl, ?_⟩
   refine oP (r := [7, 8, 9]) [4, 5, 6] (S' := [(7, .bool y4), (9, pb b24), (10, pb b25), (11, iv y21), (12, pb b41), (13, pb b42), (14, iv y38), (15, pb b56), (16, iv y53), (56, .agg ([iv y58, .string y59, .string y60, .bool y61, iv y62, .slice A64 y63.length cp65] : LV).toArray), (57, iv y67)]) (by kernel_rfl) ?_
   refine oC (Does.allocL (d := 17) (T := 27) ((([iv 0, .string (⟨#[]⟩ : ByteArray), .string (⟨#[]⟩ : ByteArray), .bool false, iv 0, .slice none 0 0] : LV))) (by kernel_rfl) ty27 hI (by kernel_rfl) ?_)
   intro b70 w hI
   refine oC (dS (T := 27) (b := b70) (o := 0) (v := .agg ([iv y58, .string y59, .string y60, .bool y61, iv y62, .slice A64 y63.length cp65] : LV).toArray) (l := (([iv 0, .string (⟨#[]⟩ : ByteArray), .string (⟨#[]⟩ : ByteArray), .bool false, iv 0, .slice none 0 0] : LV))) (vs := ([iv y58, .string y59, .string y60, .bool y61, iv y62, .slice A64 y63.length cp65] : LV)) (L' := ([iv y58, .string y59, .string y60, .bool y61, iv y62, .slice A64 y63.length cp65] : LV)) (by kernel_rfl) ty27 hI (by kernel_rfl) (by kernel_rfl) (by kernel_rfl) (by kernel_rfl) (by kernel_rfl) ?_)
   intro w hI
   refine oP (r := []) [9] (S' := [(7, .bool y4), (9, pb b24), (10, pb b25), (11, iv y21), (12, pb b41), (13, pb b42), (14, iv y38), (15, pb b56), (16, iv y53), (17, pb b70), (18, iv y67)]) (by kernel_rfl) ?_
   refine oD ?_
   refine qT ?_
   obtain ⟨r1, h1, h0⟩ := bindS h0
   refine CodT.meet (fun a w => ∃ (x71 : Bool), x71 = r1 ∧ Fr 84 [(6, .bool x71)] a ∧ Inv w0 Z68 w A) ?_ ?_
   ·
    refine cR [0, 1, 2, 3, 4, 5, 6, 7, 8, 9, 10, 11, 12, 13, 14, 15, 16, 17, 18, 19, 20, 21, 22, 23, 24, 25, 26] (by kernel_rfl) ?_
    refine oP (r := [2, 3, 4, 5, 6, 7, 8, 9, 10, 11, 12, 13, 14, 15, 16, 17, 18, 19, 20, 21, 22, 23, 24, 25, 26]) [0, 1] (S' := [(9, pb b24), (10, pb b25), (11, iv y21), (12, pb b41), (13, pb b42), (14, iv y38), (15, pb b56), (16, iv y53), (17, pb b70), (18, iv y67), (59, .bool y4)]) (by kernel_rfl) ?_
    by_cases hb72 : y4 = true
    ·
     rw [if_pos hb72] at h1
     refine oK [9, 10, 11, 12, 13, 14, 15, 16, 17, 18, 59] (S' := [(9, pb b24), (10, pb b25), (11, iv y21), (12, pb b41), (13, pb b42), (14, iv y38), (15, pb b56), (16, iv y53), (17, pb b70), (18, iv y67), (59, .bool true)]) (by (try simp only [hb72]); kernel_rfl) ?_
     refine oC (Does.yi (Yl.load (d := 60) (T := 27) (v := .agg ([iv y10, .string y11, .string y12, .bool y13, iv y14, .slice A16 y15.length cp17] : LV).toArray) (by kernel_rfl) (ldBN ty27 (l := ([iv y10, .string y11, .string y12, .bool y13, iv y14, .slice A16 y15.length cp17] : LV)) (o := 0) (cs := ([iv y10, .string y11, .string y12, .bool y13, iv y14, .slice A16 y15.length cp17] : LV)) (pick6 _ _ _ _ _ _ _) (by kernel_rfl) (whole _ _ (by kernel_rfl)))) hI ?_)
     refine oC (Does.yi (Yl.load (d := 61) (T := 27) (v := .agg ([iv y27, .string y28, .string y29, .bool y30, iv y31, .slice A33 y32.length cp34] : LV).toArray) (by kernel_rfl) (ldBN ty27 (l := ([iv y27, .string y28, .string y29, .bool y30, iv y31, .slice A33 y32.length cp34] : LV)) (o := 0) (cs := ([iv y27, .string y28, .string y29, .bool y30, iv y31, .slice A33 y32.length cp34] : LV)) (pick4 _ _ _ _ _) (by kernel_rfl) (whole _ _ (by kernel_rfl)))) hI ?_)
     obtain ⟨y74, hc73, h1⟩ := bindS h1
     try dsimp only at h1
     refine oC (Does.call (d := some 62) (n := 24) (vs := [.agg ([iv y10, .string y11, .string y12, .bool y13, iv y14, .slice A16 y15.length cp17] : LV).toArray, .agg ([iv y27, .string y28, .string y29, .bool y30, iv y31, .slice A33 y32.length cp34] : LV).toArray]) (by kernel_rfl) en24 (c24 w0 w _ _ hI (hT.mono (Hp.le_trans (Hp.le_trans (Hp.le_trans hle23 hle40) hle55) hle69)) y10 y11 y12 y13 y14 A16 cp17 y15 (hr18.mono (Hp.le_trans (Hp.le_trans hle40 hle55) hle69)) y27 y28 y29 y30 y31 A33 cp34 y32 (hr35.mono (Hp.le_trans hle55 hle69)) _ hc73) ?_)
     rintro e w ⟨rfl, hI⟩
     refine ⟨_, rfl, ?_⟩
     refine oP (r := [7, 8, 9, 10, 11, 12, 13, 14, 15, 16, 17, 18, 19, 20, 21, 22, 23, 24, 25, 26]) [5, 6] (S' := [(10, pb b25), (11, iv y21), (13, pb b42), (14, iv y38), (15, pb b56), (16, iv y53), (17, pb b70), (18, iv y67), (64, .bool y74)]) (by kernel_rfl) ?_
     by_cases hb75 : y74 = true
     ·
      rw [if_pos hb75] at h1
      refine oK [10, 11, 13, 14, 15, 16, 17, 18, 64] (S' := [(10, pb b25), (11, iv y21), (13, pb b42), (14, iv y38), (15, pb b56), (16, iv y53), (17, pb b70), (18, iv y67), (64, .bool true)]) (by (try simp only [hb75]); kernel_rfl) ?_
      refine oC (Does.yi (Yl.load (d := 65) (T := 53) (v := .agg (c_ApiEvent y19).toArray) (by kernel_rfl) (ldBN ty53 (l := c_ApiEvent y19) (o := 0) (cs := c_ApiEvent y19) (pick5 _ _ _ _ _ _) (len_ApiEvent _ hl20) (whole _ _ (len_ApiEvent _ hl20)))) hI ?_)
      refine oC (Does.yi (Yl.load (d := 66) (T := 53) (v := .agg (c_ApiEvent y36).toArray) (by kernel_rfl) (ldBN ty53 (l := c_ApiEvent y36) (o := 0) (cs := c_ApiEvent y36) (pick3 _ _ _ _) (len_ApiEvent _ hl37) (whole _ _ (len_ApiEvent _ hl37)))) hI ?_)
      refine oC (Does.yi (Yl.eqlS (d := 67) (T := 53) (xs := ([iv y19.Kind, iv y19.ID, .string y19.Name, iv y19.Time, iv y19.Len] : LV) ++ (cA (Value.int .u8) y19.Sum)) (ys := ([iv y36.Kind, iv y36.ID, .string y36.Name, iv y36.Time, iv y36.Len] : LV) ++ (cA (Value.int .u8) y36.Sum)) (r := eq_ApiEvent y19 y36) (by kernel_rfl) Go.Proofs.Tryd.underlying53 (by kernel_rfl) (by kernel_rfl) (.cons rfl (part1 (v := iv y19.Kind) ty46 (by kernel_rfl)) (part1 (v := iv y36.Kind) ty46 (by kernel_rfl)) (eqI Go.Proofs.Tryd.underlying46) (.cons rfl (part1 (v := iv y19.ID) ty3 (by kernel_rfl)) (part1 (v := iv y36.ID) ty3 (by kernel_rfl)) (eqI Go.Proofs.Tryd.underlying3) (.cons rfl (part1 (v := .string y19.Name) ty9 (by kernel_rfl)) (part1 (v := .string y36.Name) ty9 (by kernel_rfl)) (eqS Go.Proofs.Tryd.underlying9) (.cons rfl (part1 (v := iv y19.Time) ty3 (by kernel_rfl)) (part1 (v := iv y36.Time) ty3 (by kernel_rfl)) (eqI Go.Proofs.Tryd.underlying3) (.cons rfl (part1 (v := iv y19.Len) ty3 (by kernel_rfl)) (part1 (v := iv y36.Len) ty3 (by kernel_rfl)) (eqI Go.Proofs.Tryd.underlying3) (.cons rfl (partN ty51 (tail_take _ _ _ _ _ (by kernel_rfl) hl20)) (partN ty51 (tail_take _ _ _ _ _ (by kernel_rfl) hl37)) (eqAr Go.Proofs.Tryd.underlying51 Go.Proofs.Tryd.underlying5 ty5 hl20 hl37) .nil))))))) hI ?_)
      refine oP (r := [12, 13, 14, 15, 16, 17, 18, 19, 20, 21, 22, 23, 24, 25, 26]) [10, 11] (S' := [(11, iv y21), (14, iv y38), (15, pb b56), (16, iv y53), (17, pb b70), (18, iv y67), (69, .bool (eq_ApiEvent y19 y36))]) (by kernel_rfl) ?_
      by_cases hb76 : (eq_ApiEvent y19 y36) = true
      ·
       rw [if_pos hb76] at h1
       refine oK [11, 14, 15, 16, 17, 18, 69] (S' := [(11, iv y21), (14, iv y38), (15, pb b56), (16, iv y53), (17, pb b70), (18, iv y67), (69, .bool true)]) (by (try simp only [hb76]); kernel_rfl) ?_
       refine oP (r := [17, 18, 19, 20, 21, 22, 23, 24, 25, 26]) [12, 13, 14, 15, 16] (S' := [(15, pb b56), (16, iv y53), (17, pb b70), (18, iv y67), (74, .bool (y21 == y38))]) (by kernel_rfl) ?_
       by_cases hb77 : (y21 == y38) = true
       ·
        rw [if_pos hb77] at h1
        refine oK [15, 16, 17, 18, 74] (S' := [(15, pb b56), (16, iv y53), (17, pb b70), (18, iv y67), (74, .bool true)]) (by (try simp only [hb77]); kernel_rfl) ?_
        refine oC (Does.yi (Yl.load (d := 75) (T := 27) (v := .agg ([iv y44, .string y45, .string y46, .bool y47, iv y48, .slice A50 y49.length cp51] : LV).toArray) (by kernel_rfl) (ldBN ty27 (l := ([iv y44, .string y45, .string y46, .bool y47, iv y48, .slice A50 y49.length cp51] : LV)) (o := 0) (cs := ([iv y44, .string y45, .string y46, .bool y47, iv y48, .slice A50 y49.length cp51] : LV)) (pick2 _ _ _) (by kernel_rfl) (whole _ _ (by kernel_rfl)))) hI ?_)
        refine oC (Does.yi (Yl.load (d := 76) (T := 27) (v := .agg ([iv y58, .string y59, .string y60, .bool y61, iv y62, .slice A64 y63.length cp65] : LV).toArray) (by kernel_rfl) (ldBN ty27 (l := ([iv y58, .string y59, .string y60, .bool y61, iv y62, .slice A64 y63.length cp65] : LV)) (o := 0) (cs := ([iv y58, .string y59, .string y60, .bool y61, iv y62, .slice A64 y63.length cp65] : LV)) (ent_refl _) (by kernel_rfl) (whole _ _ (by kernel_rfl)))) hI ?_)
        obtain ⟨y79, hc78, h1⟩ := bindS h1
        try dsimp only at h1
        refine oC (Does.call (d := some 77) (n := 24) (vs := [.agg ([iv y44, .string y45, .string y46, .bool y47, iv y48, .slice A50 y49.length cp51] : LV).toArray, .agg ([iv y58, .string y59, .string y60, .bool y61, iv y62, .slice A64 y63.length cp65] : LV).toArray]) (by kernel_rfl) en24 (c24 w0 w _ _ hI (hT.mono (Hp.le_trans (Hp.le_trans (Hp.le_trans hle23 hle40) hle55) hle69)) y44 y45 y46 y47 y48 A50 cp51 y49 (hr52.mono hle69) y58 y59 y60 y61 y62 A64 cp65 y63 hr66 _ hc78) ?_)
        rintro e w ⟨rfl, hI⟩
        refine ⟨_, rfl, ?_⟩
        refine oP (r := [22, 23, 24, 25, 26]) [20, 21] (S' := [(16, iv y53), (18, iv y67), (79, .bool y79)]) (by kernel_rfl) ?_
        by_cases hb80 : y79 = true
        ·
         rw [if_pos hb80] at h1
         refine oK [16, 18, 79] (S' := [(16, iv y53), (18, iv y67), (79, .bool true)]) (by (try simp only [hb80]); kernel_rfl) ?_
         refine oP (r := []) [22, 23, 24, 25, 26] (S' := [(6, .bool (y53 == y67))]) (by kernel_rfl) ?_
         refine oD ?_
         have hI := hI.drop
         have hI := hI.drop
         have hI := hI.drop
         have hI := hI.drop
         have hI := hI.drop
         have hI := hI.drop
         have hI := hI.drop
         have hI := hI.drop
         have e := someS h1
         subst e
         exact Qn.thenJ fun a ha => ⟨y53 == y67, rfl, ha.keep [6] (by kernel_rfl), hI⟩
        ·
         rw [if_neg hb80] at h1
         have hb80 : y79 = false := by simpa using hb80
         refine oK [16, 18, 79] (S' := [(16, iv y53), (18, iv y67), (79, .bool false)]) (by (try simp only [hb80]); kernel_rfl) ?_
         refine oP (r := []) [22, 23, 24, 25, 26] (S' := [(6, .bool false)]) (by kernel_rfl) ?_
         refine oD ?_
         have hI := hI.drop
         have hI := hI.drop
         have hI := hI.drop
         have hI := hI.drop
         have hI := hI.drop
         have hI := hI.drop
         have hI := hI.drop
         have hI := hI.drop
         have e := someS h1
         subst e
         exact Qn.thenJ fun a ha => ⟨false, rfl, ha.keep [6] (by kernel_rfl), hI⟩
       ·
        rw [if_neg hb77] at h1
        have hb77 : (y21 == y38) = false := by simpa using hb77
        refine oK [15, 16, 17, 18, 74] (S' := [(15, pb b56), (16, iv y53), (17, pb b70), (18, iv y67), (74, .bool false)]) (by (try simp only [hb77]); kernel_rfl) ?_
        refine oP (r := []) [17, 18, 19, 20, 21, 22, 23, 24, 25, 26] (S' := [(6, .bool false)]) (by kernel_rfl) ?_
        refine oD ?_
        have hI := hI.drop
        have hI := hI.drop
        have hI := hI.drop
        have hI := hI.drop
        have hI := hI.drop
        have hI := hI.drop
        have hI := hI.drop
        have hI := hI.drop
        have e := someS h1
        subst e
        exact Qn.thenJ fun a ha => ⟨false, rfl, ha.keep [6] (by kernel_rfl), hI⟩
      ·
       rw [if_neg hb76] at h1
       have hb76 : (eq_ApiEvent y19 y36) = false := by simpa using hb76
       refine oK [11, 14, 15, 16, 17, 18, 69] (S' := [(11, iv y21), (14, iv y38), (15, pb b56), (16, iv y53), (17, pb b70), (18, iv y67), (69, .bool false)]) (by (try simp only [hb76]); kernel_rfl) ?_
       refine oP (r := []) [12, 13, 14, 15, 16, 17, 18, 19, 20, 21, 22, 23, 24, 25, 26] (S' := [(6, .bool false)]) (by kernel_rfl) ?_
       refine oD ?_
       have hI := hI.drop
       have hI := hI.drop
       have hI := hI.drop
       have hI := hI.drop
       have hI := hI.drop
       have hI := hI.drop
       have hI := hI.drop
       have hI := hI.drop
       have e := someS h1
       subst e
       exact Qn.thenJ fun a ha => ⟨false, rfl, ha.keep [6] (by kernel_rfl), hI⟩
     ·
      rw [if_neg hb75] at h1
      have hb75 : y74 = false := by simpa using hb75
      refine oK [10, 11, 13, 14, 15, 16, 17, 18, 64] (S' := [(10, pb b25), (11, iv y21), (13, pb b42), (14, iv y38), (15, pb b56), (16, iv y53), (17, pb b70), (18, iv y67), (64, .bool false)]) (by (try simp only [hb75]); kernel_rfl) ?_
      refine oP (r := []) [7, 8, 9, 10, 11, 12, 13, 14, 15, 16, 17, 18, 19, 20, 21, 22, 23, 24, 25, 26] (S' := [(6, .bool false)]) (by kernel_rfl) ?_
      refine oD ?_
      have hI := hI.drop
      have hI := hI.drop
      have hI := hI.drop
      have hI := hI.drop
      have hI := hI.drop
      have hI := hI.drop
      have hI := hI.drop
      have hI := hI.drop
      have e := someS h1
      subst e
      exact Qn.thenJ fun a ha => ⟨false, rfl, ha.keep [6] (by kernel_rfl), hI⟩
    ·
     rw [if_neg hb72] at h1
     have hb72 : y4 = false := by simpa using hb72
     refine oK [9, 10, 11, 12, 13, 14, 15, 16, 17, 18, 59] (S' := [(9, pb b24), (10, pb b25), (11, iv y21), (12, pb b41), (13, pb b42), (14, iv y38), (15, pb b56), (16, iv y53), (17, pb b70), (18, iv y67), (59, .bool false)]) (by (try simp only [hb72]); kernel_rfl) ?_
     refine oP (r := []) [2, 3, 4, 5, 6, 7, 8, 9, 10, 11, 12, 13, 14, 15, 16, 17, 18, 19, 20, 21, 22, 23, 24, 25, 26] (S' := [(6, .bool false)]) (by kernel_rfl) ?_
     refine oD ?_
     have hI := hI.drop
     have hI := hI.drop
     have hI := hI.drop
     have hI := hI.drop
     have hI := hI.drop
     have hI := hI.drop
     have hI := hI.drop
     have hI := hI.drop
     have e := someS h1
     subst e
     exact Qn.thenJ fun a ha => ⟨false, rfl, ha.keep [6] (by kernel_rfl), hI⟩
   ·
    rintro a w ⟨x71, rfl, ha, hI⟩
    try dsimp only at h0
    refine CodT.of ?_ ha
    refine CodT.ret ?_
    have e := someS h0
    subst e
    refine qK [6] (S' := [(6, .bool x71)]) (by kernel_rfl) ?_
    exact post_ret (v := .bool x71) (fun a ha => RunRes.run (vs := [.bool x71]) (.tmp (t := 6) (by kernel_rfl) .nil) ha (by kernel_rfl)) ⟨rfl, hI.weaken (Hp.le_trans (Hp.le_trans (Hp.le_trans hle23 hle40) hle55) hle69)⟩
end Go.Cen
