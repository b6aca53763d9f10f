/- That the machine computes these: walks, printed by a program of ours. -/
import Derived.Test.YtlojedndicppeaaGreatDoorPx
import Derived.Test.YtlojedndicppeaaGreatDoorWx1
set_option linter.unusedVariables false
set_option linter.unusedSimpArgs false
namespace Go.Cen
set_option maxRecDepth 100000
set_option maxHeartbeats 4000000
/-- (cenotaph/wire.got[int]).parts -/
theorem c80 (w0 w : World) (Z : Hp) (A : HP) (hI : Inv w0 Z w A) (hT : Tabs Z) (a0 : WireGot_int) (r : (Int × ByteArray × Bool)) (h0 : wire_got_int_parts a0 = some r) :
  Calls prog 80 #[.agg (c_WireGot_int a0).toArray] w (fun e w' => e = .returned (.tuple #[iv r.1, .string r.2.1, .bool r.2.2]) ∧ Inv w0 Z w' A) := by
 have e4 := calls_intro (R := (fun e w' => e = .returned (.tuple #[iv r.1, .string r.2.1, .bool r.2.2]) ∧ Inv w0 Z w' A)) (w := w) (args := [.agg (c_WireGot_int a0).toArray]) (fn := Go.Proofs.Tryz.f80) 14 Go.Proofs.Tryz.func80 (by rfl) Go.Proofs.Tryz.ntmps80 (by kernel_rfl)
 refine e4 ?_
 clear e4
 unfold wire_got_int_parts at h0
 refine cQ (cR [0, 1, 2, 3] ?_)
 refine oC (Does.boxL (d := 1) (T := 117) (v := .agg (c_WireGot_int a0).toArray) (c_WireGot_int a0) (by kernel_rfl) hI (by kernel_rfl) ?_)
 intro b1 w hI
 refine oP (r := []) [1, 2, 3] (S' := [(1, pb b1)]) ?_
 refine oD (qT (cQ (cQ (cR [0, 1, 2] ?_))))
 refine oP (r := [1, 2]) [0] (S' := [(1, pb b1), (6, .pointer (some ⟨b1, 2, none⟩))]) ?_
 refine oC (jY (jL (d := 7) (T := 4) (v := .bool a0.ok) (by kernel_rfl) (ldB ty4 (l := c_WireGot_int a0) (o := 2) (v := .bool a0.ok) (ent_refl _) (by kernel_rfl))) hI ?_)
 refine oP (r := []) [2] (S' := [(1, pb b1), (8, .bool (!a0.ok))]) ?_
 refine oD (qT ?_)
 by_cases hb2 : (!a0.ok) = true
 ·
  rw [if_pos hb2] at h0
  refine cY (b := !a0.ok) hb2 ?_
  refine cQ (cR [0] ?_)
  refine oP (r := []) [0] (S' := [(5, iv 0)]) ?_
  refine oD (qT (cQ (cR [0, 1, 2, 3] ?_)))
  refine oP (r := []) [0, 1, 2, 3] (S' := [(2, iv 0), (3, .string q8e), (4, .bool false)]) ?_
  refine oD (qT (jE (jR ?_)))
  have hI := hI.drop
  have e := someS h0
  subst e
  refine qK [2, 3, 4] (S' := [(2, iv 0), (3, .string q8e), (4, .bool false)]) ?_
  exact post_ret (v := .tuple #[iv 0, .string q8e, .bool false]) (fun a ha => jU (vs := [iv 0, .string q8e, .bool false]) (.tmp (t := 2) (by kernel_rfl) (.tmp (t := 3) (by kernel_rfl) (.tmp (t := 4) (by kernel_rfl) .nil))) ha (by kernel_rfl)) ⟨rfl, hI⟩
 ·
  rw [if_neg hb2] at h0
  refine cN (b := !a0.ok) (by simpa using hb2) ?_
  refine jS (qT (cQ ?_))
  refine CodT.drawI (n := 7) [] (by kernel_rfl) (by kernel_rfl) hI ?_
  intro w hI
  refine gP 0 10 (pb b1) ?_
  refine gP 2 12 (.pointer (some ⟨b1, 1, none⟩)) ?_
  refine gR (i := 1) 2 (jL (d := 11) (T := 3) (v := iv a0.x) (by kernel_rfl) (ldB ty3 (l := c_WireGot_int a0) (o := 0) (v := iv a0.x) (ent_refl _) (by kernel_rfl))) hI ?_
  refine gP 4 2 (iv a0.x) ?_
  refine gR (i := 3) 2 (jL (d := 13) (T := 9) (v := .string a0.rest) (by kernel_rfl) (ldB ty9 (l := c_WireGot_int a0) (o := 1) (v := .string a0.rest) (ent_refl _) (by kernel_rfl))) hI ?_
  refine gP 5 3 (.string a0.rest) ?_
  refine gP 6 4 (.bool true) ?_
  refine jD (by kernel_rfl) ?_
  refine qT (jE ?_)
  have hI := hI.drop
  have e := someS h0
  subst e
  refine qK [2, 3, 4] (S' := [(2, iv a0.x), (3, .string a0.rest), (4, .bool true)]) ?_
  exact post_ret (v := .tuple #[iv a0.x, .string a0.rest, .bool true]) (fun a ha => jU (vs := [iv a0.x, .string a0.rest, .bool true]) (.tmp (t := 2) (by kernel_rfl) (.tmp (t := 3) (by kernel_rfl) (.tmp (t := 4) (by kernel_rfl) .nil))) ha (by kernel_rfl)) ⟨rfl, hI⟩
/-- cenotaph/wire.GetNum -/
theorem c61 (w0 w : World) (Z : Hp) (A : HP) (hI : Inv w0 Z w A) (hT : Tabs Z) (a0 : ByteArray) (r : (Int × ByteArray × Bool)) (h0 : wire_GetNum a0 = some r) :
  Calls prog 61 #[.string a0] w (fun e w' => e = .returned (.tuple #[iv r.1, .string r.2.1, .bool r.2.2]) ∧ Inv w0 Z w' A) := by
 have e4 := calls_intro (R := (fun e w' => e = .returned (.tuple #[iv r.1, .string r.2.1, .bool r.2.2]) ∧ Inv w0 Z w' A)) (w := w) (args := [.string a0]) (fn := Go.Proofs.Tryz.f61) 11 Go.Proofs.Tryz.func61 (by rfl) Go.Proofs.Tryz.ntmps61 (by kernel_rfl)
 refine e4 ?_
 clear e4
 unfold wire_GetNum at h0
 refine cQ (cR [0, 1, 2] ?_)
 refine oP (r := []) [0, 1, 2] (S' := [(0, .string a0)]) ?_
 refine oD (qT (cQ (cR [0, 1, 2, 3, 4, 5, 6, 7, 8] ?_)))
 refine oP (r := [1, 2, 3, 4, 5, 6, 7, 8]) [0] (S' := [(5, .string a0)]) ?_
 obtain ⟨y2, hc1, h0⟩ := bindS h0
 try dsimp only at h0
 refine oC (jC (d := some 6) (n := 79) (vs := [.string a0]) (by kernel_rfl) en79 (c79 w0 w _ _ hI hT a0 _ hc1) ?_)
 rintro e w ⟨rfl, hI⟩
 refine ⟨_, rfl, ?_⟩
 obtain ⟨⟨y4, y5, y6⟩, hc3, h0⟩ := bindS h0
 try dsimp only at h0
 refine oC (jC (d := some 7) (n := 80) (vs := [.agg (c_WireGot_int y2).toArray]) (by kernel_rfl) en80 (c80 w0 w _ _ hI hT y2 _ hc3) ?_)
 rintro e w ⟨rfl, hI⟩
 refine ⟨_, rfl, ?_⟩
 refine oP (r := []) [3, 4, 5, 6, 7, 8] (S' := [(2, iv y4), (3, .string y5), (4, .bool y6)]) ?_
 refine oD (qT (jE ?_))
 have e := someS h0
 subst e
 refine qK [2, 3, 4] (S' := [(2, iv y4), (3, .string y5), (4, .bool y6)]) ?_
 exact post_ret (v := .tuple #[iv y4, .string y5, .bool y6]) (fun a ha => jU (vs := [iv y4, .string y5, .bool y6]) (.tmp (t := 2) (by kernel_rfl) (.tmp (t := 3) (by kernel_rfl) (.tmp (t := 4) (by kernel_rfl) .nil))) ha (by kernel_rfl)) ⟨rfl, hI⟩
/-- (*cenotaph/bundle.reader).from -/
theorem c38 (w0 w : World) (Z : Hp) (A : HP)  (hT : Tabs Z) (b_a0 : Nat) (ud : Int) (ue : (List Int)) (ubb : ue.length = 32) (ua : Option Addr) (uj : Nat) (uc : (List ApiEvent)) (ui : ByteArray) (uh : Int) (hI : Inv w0 Z w (star (pt b_a0 (.cells (((([iv ud] : LV) ++ (q8c ue) ++ ([.slice ua uc.length uj] : LV)) ++ ([.string ui, iv uh] : LV))).toArray 69 (0, 0))) (star (ownS 50 c_ApiEvent 37 ua uj uc) A))) (r : (Bool × Int × (List Int) × (List ApiEvent) × ByteArray × Int)) (h0 : bundle_reader_from ud ue uc ui uh = some r) :
  Calls prog 38 #[pb b_a0] w (fun e w' => ∃ (A1 : Option Addr) (c1 : Nat), e = .returned (.bool r.1) ∧ r.2.2.1.length = 32 ∧ Inv w0 Z w' (star (pt b_a0 (.cells (((([iv r.2.1] : LV) ++ (q8c r.2.2.1) ++ ([.slice A1 r.2.2.2.1.length c1] : LV)) ++ ([.string r.2.2.2.2.1, iv r.2.2.2.2.2] : LV))).toArray 69 (0, 0))) (star (ownS 50 c_ApiEvent 37 A1 c1 r.2.2.2.1) A))) := by
 have e4 := calls_intro (R := (fun e w' => ∃ (A1 : Option Addr) (c1 : Nat), e = .returned (.bool r.1) ∧ r.2.2.1.length = 32 ∧ Inv w0 Z w' (star (pt b_a0 (.cells (((([iv r.2.1] : LV) ++ (q8c r.2.2.1) ++ ([.slice A1 r.2.2.2.1.length c1] : LV)) ++ ([.string r.2.2.2.2.1, iv r.2.2.2.2.2] : LV))).toArray 69 (0, 0))) (star (ownS 50 c_ApiEvent 37 A1 c1 r.2.2.2.1) A)))) (w := w) (args := [pb b_a0]) (fn := Go.Proofs.Tryz.f38) 29 Go.Proofs.Tryz.func38 (by rfl) Go.Proofs.Tryz.ntmps38 (by kernel_rfl)
 refine e4 ?_
 clear e4
 unfold bundle_reader_from at h0
 refine cQ (cR [0] ?_)
 refine oP (r := []) [0] (S' := [(0, pb b_a0)]) ?_
 refine oD (qT (cQ (cR [0, 1, 2, 3, 4, 5, 6, 7, 8, 9, 10, 11] ?_)))
 refine oP (r := [3, 4, 5, 6, 7, 8, 9, 10, 11]) [0, 1, 2] (S' := [(0, pb b_a0), (9, .pointer (some ⟨b_a0, 34, none⟩))]) ?_
 refine oC (jY (jL (d := 10) (T := 9) (v := .string ui) (by kernel_rfl) (ldB ty9 (l := ((([iv ud] : LV) ++ (q8c ue) ++ ([.slice ua uc.length uj] : LV)) ++ ([.string ui, iv uh] : LV))) (o := 34) (v := .string ui) (ent_refl _) (seg_get [([iv ud] : LV), cA (Value.int .u8) ue, ([.slice ua uc.length uj] : LV), ([.string ui] : LV), ([iv uh] : LV)] 3 (by simp [cA_length, ubb]) (by simp [cA_length, ubb]) rfl))) hI ?_)
 obtain ⟨⟨y2, y3, y4⟩, hc1, h0⟩ := bindS h0
 try dsimp only at h0
 refine oC (jC (d := some 11) (n := 61) (vs := [.string ui]) (by kernel_rfl) en61 (c61 w0 w _ _ hI hT ui _ hc1) ?_)
 rintro e w ⟨rfl, hI⟩
 refine ⟨_, rfl, ?_⟩
 refine oP (r := []) [5, 6, 7, 8, 9, 10, 11] (S' := [(0, pb b_a0), (3, iv y2), (4, .string y3), (5, .bool y4)]) ?_
 refine oD (qT (cQ (cR [0, 1, 2, 3, 4, 5, 6, 7, 8, 9, 10] ?_)))
 refine oP (r := [7, 8, 9, 10]) [0, 1, 2, 3, 4, 5, 6] (S' := [(3, iv y2), (5, .bool y4), (16, pb b_a0), (17, iv y2), (18, .string y3), (21, pb b_a0)]) ?_
 refine oC (dS (T := 3) (b := b_a0) (o := 0) (v := iv y2) (l := ((([iv ud] : LV) ++ (q8c ue) ++ ([.slice ua uc.length uj] : LV)) ++ ([.string ui, iv uh] : LV))) (vs := ([iv y2] : LV)) (L' := ((([iv y2] : LV) ++ (q8c ue) ++ ([.slice ua uc.length uj] : LV)) ++ ([.string ui, iv uh] : LV))) (by kernel_rfl) ty3 hI (by kernel_rfl) (by kernel_rfl) (by rw [show List.length _ = 36 from by simp [cA_length, ubb]]; kernel_rfl) (by kernel_rfl) (seg_set [([iv ud] : LV), cA (Value.int .u8) ue, ([.slice ua uc.length uj] : LV), ([.string ui] : LV), ([iv uh] : LV)] 0 (by simp [cA_length, ubb]) (by simp [cA_length, ubb]) (by simp [cA_length, ubb]) (by simp [cA_length, ubb])) ?_)
 intro w hI
 refine oP (r := [10]) [8, 9] (S' := [(3, iv y2), (5, .bool y4), (18, .string y3), (23, .pointer (some ⟨b_a0, 34, none⟩))]) ?_
 refine oC (dS (T := 9) (b := b_a0) (o := 34) (v := .string y3) (l := ((([iv y2] : LV) ++ (q8c ue) ++ ([.slice ua uc.length uj] : LV)) ++ ([.string ui, iv uh] : LV))) (vs := ([.string y3] : LV)) (L' := ((([iv y2] : LV) ++ (q8c ue) ++ ([.slice ua uc.length uj] : LV)) ++ ([.string y3, iv uh] : LV))) (by kernel_rfl) ty9 hI (by kernel_rfl) (by kernel_rfl) (by rw [show List.length _ = 36 from by simp [cA_length, ubb]]; kernel_rfl) (by kernel_rfl) (seg_set [([iv y2] : LV), cA (Value.int .u8) ue, ([.slice ua uc.length uj] : LV), ([.string ui] : LV), ([iv uh] : LV)] 3 (by simp [cA_length, ubb]) (by simp [cA_length, ubb]) (by simp [cA_length, ubb]) (by simp [cA_length, ubb])) ?_)
 intro w hI
 refine oD (qT ?_)
 obtain ⟨r1, h1, h0⟩ := bindS h0
 refine jM (fun a w => ∃ (x5 : Bool), x5 = r1 ∧ Fr 29 [(2, .bool x5)] a ∧ Inv w0 Z w (star (pt b_a0 (.cells (((([iv y2] : LV) ++ (q8c ue) ++ ([.slice ua uc.length uj] : LV)) ++ ([.string y3, iv uh] : LV))).toArray 69 (0, 0))) (star (ownS 50 c_ApiEvent 37 ua uj uc) A))) ?_ ?_
 ·
  refine cR [0, 1, 2, 3, 4, 5] ?_
  refine oP (r := [2, 3, 4, 5]) [0, 1] (S' := [(3, iv y2), (25, .bool y4)]) ?_
  by_cases hb6 : y4 = true
  ·
   rw [if_pos hb6] at h1
   refine OpsT.keep [3, 25] (S' := [(3, iv y2), (25, .bool true)]) (by (try simp only [hb6]); kernel_rfl) ?_
   refine oP (r := []) [2, 3, 4, 5] (S' := [(2, .bool (decide (y2 ≤ 400)))]) ?_
   refine oD ?_
   have e := someS h1
   subst e
   exact jT fun a ha => ⟨decide (y2 ≤ 400), rfl, ha.keep [2] (by kernel_rfl), hI⟩
  ·
   rw [if_neg hb6] at h1
   have hb6 : y4 = false := by simpa using hb6
   refine OpsT.keep [3, 25] (S' := [(3, iv y2), (25, .bool false)]) (by (try simp only [hb6]); kernel_rfl) ?_
   refine oP (r := []) [2, 3, 4, 5] (S' := [(2, .bool false)]) ?_
   refine oD ?_
   have e := someS h1
   subst e
   exact jT fun a ha => ⟨false, rfl, ha.keep [2] (by kernel_rfl), hI⟩
 ·
  rintro a w ⟨x5, rfl, ha, hI⟩
  try dsimp only at h0
  refine CodT.of ?_ ha
  refine jE ?_
  have e := someS h0
  subst e
  refine qK [2] (S' := [(2, .bool x5)]) ?_
  exact post_ret (v := .bool x5) (fun a ha => jU (vs := [.bool x5]) (.tmp (t := 2) (by kernel_rfl) .nil) ha (by kernel_rfl)) ⟨ua, uj, rfl, ubb, hI⟩
/-- (cenotaph/wire.got[cenotaph/api.Digest]).parts -/
theorem c81 (w0 w : World) (Z : Hp) (A : HP) (hI : Inv w0 Z w A) (hT : Tabs Z) (a0 : WireGot_api_Digest) (hl1 : a0.x.length = 32) (r : ((List Int) × ByteArray × Bool)) (h0 : wire_got_apiDigest_parts a0 = some r) :
  Calls prog 81 #[.agg (c_WireGot_api_Digest a0).toArray] w (fun e w' => e = .returned (.tuple #[.agg (q8c r.1).toArray, .string r.2.1, .bool r.2.2]) ∧ r.1.length = 32 ∧ Inv w0 Z w' A) := by
 have e4 := calls_intro (R := (fun e w' => e = .returned (.tuple #[.agg (q8c r.1).toArray, .string r.2.1, .bool r.2.2]) ∧ r.1.length = 32 ∧ Inv w0 Z w' A)) (w := w) (args := [.agg (c_WireGot_api_Digest a0).toArray]) (fn := Go.Proofs.Tryz.f81) 14 Go.Proofs.Tryz.func81 (by rfl) Go.Proofs.Tryz.ntmps81 (by kernel_rfl)
 refine e4 ?_
 clear e4
 unfold wire_got_apiDigest_parts at h0
 refine cQ (cR [0, 1, 2, 3] ?_)
 refine oC (Does.boxL (d := 1) (T := 121) (v := .agg (c_WireGot_api_Digest a0).toArray) (c_WireGot_api_Digest a0) (by kernel_rfl) hI (by kernel_rfl) ?_)
 intro b2 w hI
 refine oC (jA (d := 2) (T := 23) (q8c q8z) (by kernel_rfl) ty23 hI (by kernel_rfl) ?_)
 intro b3 w hI
 refine oP (r := []) [2, 3] (S' := [(1, pb b2), (2, pb b3)]) ?_
 refine oD (qT (cQ (cQ (cR [0, 1, 2] ?_))))
 refine oP (r := [1, 2]) [0] (S' := [(1, pb b2), (2, pb b3), (6, .pointer (some ⟨b2, 33, none⟩))]) ?_
 refine oC (jY (jL (d := 7) (T := 4) (v := .bool a0.ok) (by kernel_rfl) (ldB ty4 (l := c_WireGot_api_Digest a0) (o := 33) (v := .bool a0.ok) (pick2 _ _ _) (seg_get [cA (Value.int .u8) a0.x, ([.string a0.rest] : LV), ([.bool a0.ok] : LV)] 2 (by simp [c_WireGot_api_Digest, cA_length, hl1]) (by simp [c_WireGot_api_Digest, cA_length, hl1]) rfl))) hI ?_)
 refine oP (r := []) [2] (S' := [(1, pb b2), (2, pb b3), (8, .bool (!a0.ok))]) ?_
 refine oD (qT ?_)
 by_cases hb4 : (!a0.ok) = true
 ·
  rw [if_pos hb4] at h0
  refine cY (b := !a0.ok) hb4 ?_
  refine cQ (cR [0] ?_)
  refine oC (jA (d := 5) (T := 23) (q8c q8z) (by kernel_rfl) ty23 hI (by kernel_rfl) ?_)
  intro b5 w hI
  refine oD (qT (cQ (cR [0, 1, 2, 3] ?_)))
  refine oC (jY (jL (d := 9) (T := 23) (v := .agg (q8c q8z).toArray) (by kernel_rfl) (ldBN ty23 (l := cA (Value.int .u8) q8z) (o := 0) (cs := cA (Value.int .u8) q8z) (ent_refl _) ((cA_length _ _).trans (by kernel_rfl)) (whole _ _ ((cA_length _ _).trans (by kernel_rfl))))) hI ?_)
  have hI := hI.mono (pick2 _ _ _)
  refine oC (jV (T := 23) (b := b3) (n := 32) (xs := q8z) (ys := q8z) (by kernel_rfl) ty23 hI (fun _ => rfl) (by kernel_rfl) (by kernel_rfl) ?_)
  intro w hI
  refine oP (r := []) [2, 3] (S' := [(2, pb b3), (3, .string q8e), (4, .bool false)]) ?_
  refine oD (qT (jE (jR ?_)))
  have hL6 := (ldBN ty23 (l := cA (Value.int .u8) q8z) (o := 0) (cs := cA (Value.int .u8) q8z) (ent_refl _) ((cA_length _ _).trans (by kernel_rfl)) (whole _ _ ((cA_length _ _).trans (by kernel_rfl)))) w hI
  have hI := hI.drop
  have hI := hI.drop
  have hI := hI.drop
  have e := someS h0
  subst e
  refine qK [2, 3, 4] (S' := [(2, pb b3), (3, .string q8e), (4, .bool false)]) ?_
  exact post_ret (v := .tuple #[.agg (q8c q8z).toArray, .string q8e, .bool false]) (fun a ha => jU (vs := [.agg (q8c q8z).toArray, .string q8e, .bool false]) (.cell (t := 2) (T := 23) (ad := ⟨b3, 0, none⟩) (by kernel_rfl) hL6 (.tmp (t := 3) (by kernel_rfl) (.tmp (t := 4) (by kernel_rfl) .nil))) ha (by kernel_rfl)) ⟨rfl, (by kernel_rfl), hI⟩
 ·
  rw [if_neg hb4] at h0
  refine cN (b := !a0.ok) (by simpa using hb4) ?_
  refine jS (qT (cQ ?_))
  refine CodT.drawC (n := 7) (B := (star (pt b2 (.cells (c_WireGot_api_Digest a0).toArray 121 (0, 0))) A)) [] (by kernel_rfl) (by kernel_rfl) hI ?_
  intro w hI
  refine gP 0 10 (pb b2) ?_
  refine gP 2 12 (.pointer (some ⟨b2, 32, none⟩)) ?_
  have hC := hI
  have hC := hC.drop
  refine gR (i := 1) 2 (jL (d := 11) (T := 23) (v := .agg (q8c a0.x).toArray) (by kernel_rfl) (ldBN ty23 (l := c_WireGot_api_Digest a0) (o := 0) (cs := cA (Value.int .u8) a0.x) (ent_refl _) ((cA_length _ _).trans hl1) (seg_take [cA (Value.int .u8) a0.x, ([.string a0.rest] : LV), ([.bool a0.ok] : LV)] 0 1 (by simp [c_WireGot_api_Digest, cA_length, hl1]) (by simp [c_WireGot_api_Digest, cA_length, hl1]) (by simp [c_WireGot_api_Digest, cA_length, hl1]) (by simp [c_WireGot_api_Digest, cA_length, hl1])))) hC ?_
  have hC := hI
  have hC := hC.drop
  refine gR (i := 3) 2 (jL (d := 13) (T := 9) (v := .string a0.rest) (by kernel_rfl) (ldB ty9 (l := c_WireGot_api_Digest a0) (o := 32) (v := .string a0.rest) (ent_refl _) (seg_get [cA (Value.int .u8) a0.x, ([.string a0.rest] : LV), ([.bool a0.ok] : LV)] 1 (by simp [c_WireGot_api_Digest, cA_length, hl1]) (by simp [c_WireGot_api_Digest, cA_length, hl1]) rfl))) hC ?_
  refine jO (i := 4) (by kernel_rfl) (jV (T := 23) (b := b3) (n := 32) (xs := q8z) (ys := a0.x) (by kernel_rfl) ty23 hI (fun _ => rfl) (by kernel_rfl) hl1 ?_)
  intro w hI
  have hC := hI
  have hC := hC.drop
  refine ⟨fun _ _ => hC, ?_⟩
  refine gP 5 3 (.string a0.rest) ?_
  refine gP 6 4 (.bool true) ?_
  refine jD (by kernel_rfl) ?_
  refine qT (jE ?_)
  have hL7 := (ldBN ty23 (l := cA (Value.int .u8) a0.x) (o := 0) (cs := cA (Value.int .u8) a0.x) (ent_refl _) ((cA_length _ _).trans hl1) (whole _ _ ((cA_length _ _).trans hl1))) w hI
  have hI := hI.drop
  have hI := hI.drop
  have e := someS h0
  subst e
  refine qK [2, 3, 4] (S' := [(2, pb b3), (3, .string a0.rest), (4, .bool true)]) ?_
  exact post_ret (v := .tuple #[.agg (q8c a0.x).toArray, .string a0.rest, .bool true]) (fun a ha => jU (vs := [.agg (q8c a0.x).toArray, .string a0.rest, .bool true]) (.cell (t := 2) (T := 23) (ad := ⟨b3, 0, none⟩) (by kernel_rfl) hL7 (.tmp (t := 3) (by kernel_rfl) (.tmp (t := 4) (by kernel_rfl) .nil))) ha (by kernel_rfl)) ⟨rfl, hl1, hI⟩
/-- cenotaph/wire.GetSum -/
theorem c62 (w0 w : World) (Z : Hp) (A : HP) (hI : Inv w0 Z w A) (hT : Tabs Z) (a0 : ByteArray) (r : ((List Int) × ByteArray × Bool)) (h0 : wire_GetSum a0 = some r) :
  Calls prog 62 #[.string a0] w (fun e w' => e = .returned (.tuple #[.agg (q8c r.1).toArray, .string r.2.1, .bool r.2.2]) ∧ r.1.length = 32 ∧ Inv w0 Z w' A) := by
 have e4 := calls_intro (R := (fun e w' => e = .returned (.tuple #[.agg (q8c r.1).toArray, .string r.2.1, .bool r.2.2]) ∧ r.1.length = 32 ∧ Inv w0 Z w' A)) (w := w) (args := [.string a0]) (fn := Go.Proofs.Tryz.f62) 25 Go.Proofs.Tryz.func62 (by rfl) Go.Proofs.Tryz.ntmps62 (by kernel_rfl)
 refine e4 ?_
 clear e4
 unfold wire_GetSum at h0
 refine cQ (cR [0, 1, 2] ?_)
 refine oC (jA (d := 2) (T := 23) (q8c q8z) (by kernel_rfl) ty23 hI (by kernel_rfl) ?_)
 intro b1 w hI
 refine oP (r := []) [1, 2] (S' := [(0, .string a0), (2, pb b1)]) ?_
 refine oD (qT (cQ (cQ (cR [0, 1, 2] ?_))))
 refine oP (r := []) [0, 1, 2] (S' := [(0, .string a0), (2, pb b1), (7, .bool (decide ((a0.size : Int) < 32)))]) ?_
 refine oD (qT ?_)
 by_cases hb2 : (decide ((a0.size : Int) < 32)) = true
 ·
  rw [if_pos hb2] at h0
  refine cY (b := decide ((a0.size : Int) < 32)) hb2 ?_
  refine cQ (cR [0, 1, 2, 3, 4, 5, 6, 7] ?_)
  refine oP (r := [1, 2, 3, 4, 5, 6, 7]) [0] (S' := [(2, pb b1), (8, .agg (c_WireGot_api_Digest (WireGot_api_Digest.mk q8z q8e false)).toArray)]) ?_
  obtain ⟨⟨y4, y6, y7⟩, hc3, h0⟩ := bindS h0
  try dsimp only at h0
  refine oC (jC (d := some 9) (n := 81) (vs := [.agg (c_WireGot_api_Digest (WireGot_api_Digest.mk q8z q8e false)).toArray]) (by kernel_rfl) en81 (c81 w0 w _ _ hI hT (WireGot_api_Digest.mk q8z q8e false) (by kernel_rfl) _ hc3) ?_)
  rintro e w ⟨rfl, hl5, hI⟩
  refine ⟨_, rfl, ?_⟩
  refine oP (r := [5, 6, 7]) [2, 3, 4] (S' := [(2, pb b1), (10, .agg (q8c y4).toArray), (11, .string y6), (12, .bool y7)]) ?_
  refine oC (jV (T := 23) (b := b1) (n := 32) (xs := q8z) (ys := y4) (by kernel_rfl) ty23 hI (fun _ => rfl) (by kernel_rfl) hl5 ?_)
  intro w hI
  refine oP (r := []) [6, 7] (S' := [(2, pb b1), (3, .string y6), (4, .bool y7)]) ?_
  refine oD (qT (jE (jR ?_)))
  have hL8 := (ldBN ty23 (l := cA (Value.int .u8) y4) (o := 0) (cs := cA (Value.int .u8) y4) (ent_refl _) ((cA_length _ _).trans hl5) (whole _ _ ((cA_length _ _).trans hl5))) w hI
  have hI := hI.drop
  have e := someS h0
  subst e
  refine qK [2, 3, 4] (S' := [(2, pb b1), (3, .string y6), (4, .bool y7)]) ?_
  exact post_ret (v := .tuple #[.agg (q8c y4).toArray, .string y6, .bool y7]) (fun a ha => jU (vs := [.agg (q8c y4).toArray, .string y6, .bool y7]) (.cell (t := 2) (T := 23) (ad := ⟨b1, 0, none⟩) (by kernel_rfl) hL8 (.tmp (t := 3) (by kernel_rfl) (.tmp (t := 4) (by kernel_rfl) .nil))) ha (by kernel_rfl)) ⟨rfl, hl5, hI⟩
 ·
  rw [if_neg hb2] at h0
  refine cN (b := decide ((a0.size : Int) < 32)) (by simpa using hb2) ?_
  refine jS (qT (cQ ?_))
  refine CodT.drawI (n := 15) [12] (by kernel_rfl) (by kernel_rfl) hI ?_
  intro w hI
  refine gP 0 13 (.string a0) ?_
  refine gP 5 18 (.string a0) ?_
  obtain ⟨hg9, h0⟩ := guardS h0
  refine gR (i := 1) 2 (Yl.sliceStr01 (d := 14) (T := 9) (s := a0) (hi := 32) (by kernel_rfl) Go.Proofs.Tryz.underlying9 hg9) hI ?_
  obtain ⟨hg10, h0⟩ := guardS h0
  refine gR (i := 6) 2 (Yl.sliceStr10 (d := 19) (T := 9) (s := a0) (lo := 32) (by kernel_rfl) Go.Proofs.Tryz.underlying9 hg10) hI ?_
  obtain ⟨hg11, h0⟩ := guardS h0
  refine jO (i := 2) (by kernel_rfl) (Does.s2b (d := 15) (src := 9) (dst := 52) (s := sx a0 0 32) (by kernel_rfl) Go.Proofs.Tryz.underlying9 Go.Proofs.Tryz.underlying52 Go.Proofs.Tryz.underlying5 (Nat.le_trans hg11 (by decide)) hI ?_)
  intro A12 cp13 w hI
  have hC := hI
  have hC := hC.drop
  refine ⟨fun _ _ => hC, ?_⟩
  obtain ⟨hg14, h0⟩ := guardS h0
  obtain ⟨g15, hA16, hr17⟩ := ownS_all hI (by rw [hg14]; decide)
  refine jO (i := 3) (by kernel_rfl) (jY (Yl.arrPtr' (d := 16) (T := 23) (ad := ⟨g15, 0, none⟩) (c := cp13) (by kernel_rfl) Go.Proofs.Tryz.underlying23 hg14 hA16) hI ?_)
  refine ⟨fun _ h => h, ?_⟩
  refine jO (i := 4) (by kernel_rfl) (jY (jL (d := 17) (T := 23) (v := .agg (q8c (byts (sx a0 0 32))).toArray) (by kernel_rfl) (ldRN ty23 (cs := cA (Value.int .u8) (byts (sx a0 0 32))) 0 (fun w hC => by rw [← flat_cI]; exact (fun w hC => hr17 w0 w _ hC) w hC) ((cA_length _ _).trans hg14) (whole _ _ ((cA_length _ _).trans hg14)))) hI ?_)
  refine ⟨fun _ h => h, ?_⟩
  refine jO (i := 7) (by kernel_rfl) (jY (Yl.buildB (d := 20) (T := 121) (ps := [(0, .agg (q8c (byts (sx a0 0 32))).toArray), (1, .string (sx a0 32 (a0.size : Int))), (2, .bool true)]) (cells := (c_WireGot_api_Digest (WireGot_api_Digest.mk (byts (sx a0 0 32)) (sx a0 32 (a0.size : Int)) true)).toArray) (by kernel_rfl) ((built_all (places := [(0, 32), (32, 1), (33, 1)]) (lens := [32, 1, 1]) (zs := [cA (Value.int .u8) q8z, ([.string q8e] : LV), ([.bool false] : LV)]) (fun _ => by kernel_rfl) (by kernel_rfl) [(0, .agg (q8c (byts (sx a0 0 32))).toArray, cA (Value.int .u8) (byts (sx a0 0 32))), (1, .string (sx a0 32 (a0.size : Int)), ([.string (sx a0 32 (a0.size : Int))] : LV)), (2, .bool true, ([.bool true] : LV))] (List.forall_mem_cons.2 ⟨⟨rfl, congrArg some ((cA_length _ _).trans hg14).symm, congrArg (fun n => some (0, n)) ((cA_length _ _).trans hg14).symm⟩, (List.forall_mem_cons.2 ⟨⟨rfl, rfl, rfl⟩, (List.forall_mem_cons.2 ⟨⟨rfl, rfl, rfl⟩, (fun _ h => by cases h)⟩)⟩)⟩)).trans (by first | rfl | simp [c_WireGot_api_Digest]))) hI ?_)
  refine ⟨fun _ h => h, ?_⟩
  obtain ⟨⟨y19, y21, y22⟩, hc18, h0⟩ := bindS h0
  try dsimp only at h0
  refine jO (i := 8) (by kernel_rfl) (jC (d := some 21) (n := 81) (vs := [.agg (c_WireGot_api_Digest (WireGot_api_Digest.mk (byts (sx a0 0 32)) (sx a0 32 (a0.size : Int)) true)).toArray]) (by kernel_rfl) en81 (c81 w0 w _ _ hI hT (WireGot_api_Digest.mk (byts (sx a0 0 32)) (sx a0 32 (a0.size : Int)) true) hg14 _ hc18) ?_)
  rintro e w ⟨rfl, hl20, hI⟩
  refine ⟨_, rfl, ?_⟩
  have hC := hI
  have hC := hC.drop
  refine ⟨fun _ _ => hC, ?_⟩
  refine gP 9 22 (.agg (q8c y19).toArray) ?_
  refine gP 10 23 (.string y21) ?_
  refine gP 11 24 (.bool y22) ?_
  have hI := hI.mono (pick2 _ _ _)
  refine jO (i := 12) (by kernel_rfl) (jV (T := 23) (b := b1) (n := 32) (xs := q8z) (ys := y19) (by kernel_rfl) ty23 hI (fun _ => rfl) (by kernel_rfl) hl20 ?_)
  intro w hI
  refine ⟨fun h => absurd h (by decide), ?_⟩
  refine gP 13 3 (.string y21) ?_
  refine gP 14 4 (.bool y22) ?_
  refine jD (by kernel_rfl) ?_
  refine qT (jE ?_)
  have hL23 := (ldBN ty23 (l := cA (Value.int .u8) y19) (o := 0) (cs := cA (Value.int .u8) y19) (ent_refl _) ((cA_length _ _).trans hl20) (whole _ _ ((cA_length _ _).trans hl20))) w hI
  have hI := hI.drop
  have hI := hI.drop
  have e := someS h0
  subst e
  refine qK [2, 3, 4] (S' := [(2, pb b1), (3, .string y21), (4, .bool y22)]) ?_
  exact post_ret (v := .tuple #[.agg (q8c y19).toArray, .string y21, .bool y22]) (fun a ha => jU (vs := [.agg (q8c y19).toArray, .string y21, .bool y22]) (.cell (t := 2) (T := 23) (ad := ⟨b1, 0, none⟩) (by kernel_rfl) hL23 (.tmp (t := 3) (by kernel_rfl) (.tmp (t := 4) (by kernel_rfl) .nil))) ha (by kernel_rfl)) ⟨rfl, hl20, hI⟩
/-- (*cenotaph/bundle.reader).head -/
theorem c39 (w0 w : World) (Z : Hp) (A : HP)  (hT : Tabs Z) (b_a0 : Nat) (ud : Int) (ue : (List Int)) (ubb : ue.length = 32) (ua : Option Addr) (uj : Nat) (uc : (List ApiEvent)) (ui : ByteArray) (uh : Int) (hI : Inv w0 Z w (star (pt b_a0 (.cells (((([iv ud] : LV) ++ (q8c ue) ++ ([.slice ua uc.length uj] : LV)) ++ ([.string ui, iv uh] : LV))).toArray 69 (0, 0))) (star (ownS 50 c_ApiEvent 37 ua uj uc) A))) (r : (Bool × Int × (List Int) × (List ApiEvent) × ByteArray × Int)) (h0 : bundle_reader_head ud ue uc ui uh = some r) :
  Calls prog 39 #[pb b_a0] w (fun e w' => ∃ (A1 : Option Addr) (c1 : Nat), e = .returned (.bool r.1) ∧ r.2.2.1.length = 32 ∧ Inv w0 Z w' (star (pt b_a0 (.cells (((([iv r.2.1] : LV) ++ (q8c r.2.2.1) ++ ([.slice A1 r.2.2.2.1.length c1] : LV)) ++ ([.string r.2.2.2.2.1, iv r.2.2.2.2.2] : LV))).toArray 69 (0, 0))) (star (ownS 50 c_ApiEvent 37 A1 c1 r.2.2.2.1) A))) := by
 have e4 := calls_intro (R := (fun e w' => ∃ (A1 : Option Addr) (c1 : Nat), e = .returned (.bool r.1) ∧ r.2.2.1.length = 32 ∧ Inv w0 Z w' (star (pt b_a0 (.cells (((([iv r.2.1] : LV) ++ (q8c r.2.2.1) ++ ([.slice A1 r.2.2.2.1.length c1] : LV)) ++ ([.string r.2.2.2.2.1, iv r.2.2.2.2.2] : LV))).toArray 69 (0, 0))) (star (ownS 50 c_ApiEvent 37 A1 c1 r.2.2.2.1) A)))) (w := w) (args := [pb b_a0]) (fn := Go.Proofs.Tryz.f39) 25 Go.Proofs.Tryz.func39 (by rfl) Go.Proofs.Tryz.ntmps39 (by kernel_rfl)
 refine e4 ?_
 clear e4
 unfold bundle_reader_head at h0
 refine cQ (cR [0] ?_)
 refine oP (r := []) [0] (S' := [(0, pb b_a0)]) ?_
 refine oD (qT (cQ (cR [0, 1, 2, 3, 4, 5, 6, 7, 8, 9, 10, 11, 12] ?_)))
 refine oP (r := [3, 4, 5, 6, 7, 8, 9, 10, 11, 12]) [0, 1, 2] (S' := [(0, pb b_a0), (9, .pointer (some ⟨b_a0, 34, none⟩))]) ?_
 refine oC (jY (jL (d := 10) (T := 9) (v := .string ui) (by kernel_rfl) (ldB ty9 (l := ((([iv ud] : LV) ++ (q8c ue) ++ ([.slice ua uc.length uj] : LV)) ++ ([.string ui, iv uh] : LV))) (o := 34) (v := .string ui) (ent_refl _) (seg_get [([iv ud] : LV), cA (Value.int .u8) ue, ([.slice ua uc.length uj] : LV), ([.string ui] : LV), ([iv uh] : LV)] 3 (by simp [cA_length, ubb]) (by simp [cA_length, ubb]) rfl))) hI ?_)
 obtain ⟨⟨y2, y4, y5⟩, hc1, h0⟩ := bindS h0
 try dsimp only at h0
 refine oC (jC (d := some 11) (n := 62) (vs := [.string ui]) (by kernel_rfl) en62 (c62 w0 w _ _ hI hT ui _ hc1) ?_)
 rintro e w ⟨rfl, hl3, hI⟩
 refine ⟨_, rfl, ?_⟩
 refine oP (r := [9, 10, 11, 12]) [5, 6, 7, 8] (S' := [(0, pb b_a0), (12, .agg (q8c y2).toArray), (13, .string y4), (14, .bool y5)]) ?_
 refine oC (jA (d := 3) (T := 23) (q8c q8z) (by kernel_rfl) ty23 hI (by kernel_rfl) ?_)
 intro b6 w hI
 refine oC (jV (T := 23) (b := b6) (n := 32) (xs := q8z) (ys := y2) (by kernel_rfl) ty23 hI (fun _ => rfl) (by kernel_rfl) hl3 ?_)
 intro w hI
 refine oP (r := []) [11, 12] (S' := [(0, pb b_a0), (3, pb b6), (4, .string y4), (5, .bool y5)]) ?_
 refine oD (qT (cQ (cR [0, 1, 2, 3, 4, 5, 6, 7, 8, 9, 10] ?_)))
 refine oP (r := [2, 3, 4, 5, 6, 7, 8, 9, 10]) [0, 1] (S' := [(3, pb b6), (4, .string y4), (5, .bool y5), (15, pb b_a0), (16, pb b_a0)]) ?_
 refine oC (jY (jL (d := 17) (T := 23) (v := .agg (q8c y2).toArray) (by kernel_rfl) (ldBN ty23 (l := cA (Value.int .u8) y2) (o := 0) (cs := cA (Value.int .u8) y2) (ent_refl _) ((cA_length _ _).trans hl3) (whole _ _ ((cA_length _ _).trans hl3)))) hI ?_)
 refine oP (r := [7, 8, 9, 10]) [3, 4, 5, 6] (S' := [(5, .bool y5), (16, pb b_a0), (17, .agg (q8c y2).toArray), (18, .string y4), (21, .pointer (some ⟨b_a0, 1, none⟩))]) ?_
 have hI := hI.mono (pick2 _ _ _)
 refine oC (dS (T := 23) (b := b_a0) (o := 1) (v := .agg (q8c y2).toArray) (l := ((([iv ud] : LV) ++ (q8c ue) ++ ([.slice ua uc.length uj] : LV)) ++ ([.string ui, iv uh] : LV))) (vs := cA (Value.int .u8) y2) (L' := ((([iv ud] : LV) ++ (q8c y2) ++ ([.slice ua uc.length uj] : LV)) ++ ([.string ui, iv uh] : LV))) (by kernel_rfl) ty23 hI (by kernel_rfl) ((cA_length _ _).trans hl3) (by rw [show List.length _ = 36 from by simp [cA_length, ubb]]; kernel_rfl) (ones_cA _) (seg_set [([iv ud] : LV), cA (Value.int .u8) ue, ([.slice ua uc.length uj] : LV), ([.string ui] : LV), ([iv uh] : LV)] 1 (by simp [cA_length, ubb]) (by simp [cA_length, ubb, hl3]) (by simp [cA_length, ubb]) (by simp [cA_length, ubb, hl3])) ?_)
 intro w hI
 refine oP (r := [10]) [8, 9] (S' := [(5, .bool y5), (18, .string y4), (23, .pointer (some ⟨b_a0, 34, none⟩))]) ?_
 refine oC (dS (T := 9) (b := b_a0) (o := 34) (v := .string y4) (l := ((([iv ud] : LV) ++ (q8c y2) ++ ([.slice ua uc.length uj] : LV)) ++ ([.string ui, iv uh] : LV))) (vs := ([.string y4] : LV)) (L' := ((([iv ud] : LV) ++ (q8c y2) ++ ([.slice ua uc.length uj] : LV)) ++ ([.string y4, iv uh] : LV))) (by kernel_rfl) ty9 hI (by kernel_rfl) (by kernel_rfl) (by rw [show List.length _ = 36 from by simp [cA_length, hl3]]; kernel_rfl) (by kernel_rfl) (seg_set [([iv ud] : LV), cA (Value.int .u8) y2, ([.slice ua uc.length uj] : LV), ([.string ui] : LV), ([iv uh] : LV)] 3 (by simp [cA_length, hl3]) (by simp [cA_length, hl3]) (by simp [cA_length, hl3]) (by simp [cA_length, hl3])) ?_)
 intro w hI
 refine oD (qT (cQ (cR [0, 1] ?_)))
 refine oP (r := []) [0, 1] (S' := [(2, .bool y5)]) ?_
 refine oD (qT (jE ?_))
 have hI := hI.mono (pick2 _ _ _)
 have hI := hI.drop
 have e := someS h0
 subst e
 refine qK [2] (S' := [(2, .bool y5)]) ?_
 exact post_ret (v := .bool y5) (fun a ha => jU (vs := [.bool y5]) (.tmp (t := 2) (by kernel_rfl) .nil) ha (by kernel_rfl)) ⟨ua, uj, rfl, hl3, hI⟩
/-- (*cenotaph/bundle.reader).count -/
theorem c40 (w0 w : World) (Z : Hp) (A : HP)  (hT : Tabs Z) (b_a0 : Nat) (ud : Int) (ue : (List Int)) (ubb : ue.length = 32) (ua : Option Addr) (uj : Nat) (uc : (List ApiEvent)) (ui : ByteArray) (uh : Int) (hI : Inv w0 Z w (star (pt b_a0 (.cells (((([iv ud] : LV) ++ (q8c ue) ++ ([.slice ua uc.length uj] : LV)) ++ ([.string ui, iv uh] : LV))).toArray 69 (0, 0))) (star (ownS 50 c_ApiEvent 37 ua uj uc) A))) (r : (Bool × Int × (List Int) × (List ApiEvent) × ByteArray × Int)) (h0 : bundle_reader_count ud ue uc ui uh = some r) :
  Calls prog 40 #[pb b_a0] w (fun e w' => ∃ (A1 : Option Addr) (c1 : Nat), e = .returned (.bool r.1) ∧ r.2.2.1.length = 32 ∧ Inv w0 Z w' (star (pt b_a0 (.cells (((([iv r.2.1] : LV) ++ (q8c r.2.2.1) ++ ([.slice A1 r.2.2.2.1.length c1] : LV)) ++ ([.string r.2.2.2.2.1, iv r.2.2.2.2.2] : LV))).toArray 69 (0, 0))) (star (ownS 50 c_ApiEvent 37 A1 c1 r.2.2.2.1) A))) := by
 have e4 := calls_intro (R := (fun e w' => ∃ (A1 : Option Addr) (c1 : Nat), e = .returned (.bool r.1) ∧ r.2.2.1.length = 32 ∧ Inv w0 Z w' (star (pt b_a0 (.cells (((([iv r.2.1] : LV) ++ (q8c r.2.2.1) ++ ([.slice A1 r.2.2.2.1.length c1] : LV)) ++ ([.string r.2.2.2.2.1, iv r.2.2.2.2.2] : LV))).toArray 69 (0, 0))) (star (ownS 50 c_ApiEvent 37 A1 c1 r.2.2.2.1) A)))) (w := w) (args := [pb b_a0]) (fn := Go.Proofs.Tryz.f40) 28 Go.Proofs.Tryz.func40 (by rfl) Go.Proofs.Tryz.ntmps40 (by kernel_rfl)
 refine e4 ?_
 clear e4
 unfold bundle_reader_count at h0
 refine cQ (cR [0] ?_)
 refine oP (r := []) [0] (S' := [(0, pb b_a0)]) ?_
 refine oD (qT (cQ (cR [0, 1, 2, 3, 4, 5, 6, 7, 8, 9, 10, 11] ?_)))
 refine oP (r := [3, 4, 5, 6, 7, 8, 9, 10, 11]) [0, 1, 2] (S' := [(0, pb b_a0), (9, .pointer (some ⟨b_a0, 34, none⟩))]) ?_
 refine oC (jY (jL (d := 10) (T := 9) (v := .string ui) (by kernel_rfl) (ldB ty9 (l := ((([iv ud] : LV) ++ (q8c ue) ++ ([.slice ua uc.length uj] : LV)) ++ ([.string ui, iv uh] : LV))) (o := 34) (v := .string ui) (ent_refl _) (seg_get [([iv ud] : LV), cA (Value.int .u8) ue, ([.slice ua uc.length uj] : LV), ([.string ui] : LV), ([iv uh] : LV)] 3 (by simp [cA_length, ubb]) (by simp [cA_length, ubb]) rfl))) hI ?_)
 obtain ⟨⟨y2, y3, y4⟩, hc1, h0⟩ := bindS h0
 try dsimp only at h0
 refine oC (jC (d := some 11) (n := 61) (vs := [.string ui]) (by kernel_rfl) en61 (c61 w0 w _ _ hI hT ui _ hc1) ?_)
 rintro e w ⟨rfl, hI⟩
 refine ⟨_, rfl, ?_⟩
 refine oP (r := []) [5, 6, 7, 8, 9, 10, 11] (S' := [(0, pb b_a0), (3, iv y2), (4, .string y3), (5, .bool y4)]) ?_
 refine oD (qT (cQ (cR [0, 1, 2, 3, 4, 5, 6, 7, 8, 9] ?_)))
 refine oP (r := [6, 7, 8, 9]) [0, 1, 2, 3, 4, 5] (S' := [(3, iv y2), (5, .bool y4), (16, pb b_a0), (17, iv y2), (18, .string y3), (20, .pointer (some ⟨b_a0, 35, none⟩))]) ?_
 refine oC (dS (T := 3) (b := b_a0) (o := 35) (v := iv y2) (l := ((([iv ud] : LV) ++ (q8c ue) ++ ([.slice ua uc.length uj] : LV)) ++ ([.string ui, iv uh] : LV))) (vs := ([iv y2] : LV)) (L' := ((([iv ud] : LV) ++ (q8c ue) ++ ([.slice ua uc.length uj] : LV)) ++ ([.string ui, iv y2] : LV))) (by kernel_rfl) ty3 hI (by kernel_rfl) (by kernel_rfl) (by rw [show List.length _ = 36 from by simp [cA_length, ubb]]; kernel_rfl) (by kernel_rfl) (seg_set [([iv ud] : LV), cA (Value.int .u8) ue, ([.slice ua uc.length uj] : LV), ([.string ui] : LV), ([iv uh] : LV)] 4 (by simp [cA_length, ubb]) (by simp [cA_length, ubb]) (by simp [cA_length, ubb]) (by simp [cA_length, ubb])) ?_)
 intro w hI
 refine oP (r := [9]) [7, 8] (S' := [(3, iv y2), (5, .bool y4), (18, .string y3), (22, .pointer (some ⟨b_a0, 34, none⟩))]) ?_
 refine oC (dS (T := 9) (b := b_a0) (o := 34) (v := .string y3) (l := ((([iv ud] : LV) ++ (q8c ue) ++ ([.slice ua uc.length uj] : LV)) ++ ([.string ui, iv y2] : LV))) (vs := ([.string y3] : LV)) (L' := ((([iv ud] : LV) ++ (q8c ue) ++ ([.slice ua uc.length uj] : LV)) ++ ([.string y3, iv y2] : LV))) (by kernel_rfl) ty9 hI (by kernel_rfl) (by kernel_rfl) (by rw [show List.length _ = 36 from by simp [cA_length, ubb]]; kernel_rfl) (by kernel_rfl) (seg_set [([iv ud] : LV), cA (Value.int .u8) ue, ([.slice ua uc.length uj] : LV), ([.string ui] : LV), ([iv y2] : LV)] 3 (by simp [cA_length, ubb]) (by simp [cA_length, ubb]) (by simp [cA_length, ubb]) (by simp [cA_length, ubb])) ?_)
 intro w hI
 refine oD (qT ?_)
 obtain ⟨r1, h1, h0⟩ := bindS h0
 refine jM (fun a w => ∃ (x5 : Bool), x5 = r1 ∧ Fr 28 [(2, .bool x5)] a ∧ Inv w0 Z w (star (pt b_a0 (.cells (((([iv ud] : LV) ++ (q8c ue) ++ ([.slice ua uc.length uj] : LV)) ++ ([.string y3, iv y2] : LV))).toArray 69 (0, 0))) (star (ownS 50 c_ApiEvent 37 ua uj uc) A))) ?_ ?_
 ·
  refine cR [0, 1, 2, 3, 4, 5] ?_
  refine oP (r := [2, 3, 4, 5]) [0, 1] (S' := [(3, iv y2), (24, .bool y4)]) ?_
  by_cases hb6 : y4 = true
  ·
   rw [if_pos hb6] at h1
   refine OpsT.keep [3, 24] (S' := [(3, iv y2), (24, .bool true)]) (by (try simp only [hb6]); kernel_rfl) ?_
   refine oP (r := []) [2, 3, 4, 5] (S' := [(2, .bool (decide (y2 ≤ 400)))]) ?_
   refine oD ?_
   have e := someS h1
   subst e
   exact jT fun a ha => ⟨decide (y2 ≤ 400), rfl, ha.keep [2] (by kernel_rfl), hI⟩
  ·
   rw [if_neg hb6] at h1
   have hb6 : y4 = false := by simpa using hb6
   refine OpsT.keep [3, 24] (S' := [(3, iv y2), (24, .bool false)]) (by (try simp only [hb6]); kernel_rfl) ?_
   refine oP (r := []) [2, 3, 4, 5] (S' := [(2, .bool false)]) ?_
   refine oD ?_
   have e := someS h1
   subst e
   exact jT fun a ha => ⟨false, rfl, ha.keep [2] (by kernel_rfl), hI⟩
 ·
  rintro a w ⟨x5, rfl, ha, hI⟩
  try dsimp only at h0
  refine CodT.of ?_ ha
  refine jE ?_
  have e := someS h0
  subst e
  refine qK [2] (S' := [(2, .bool x5)]) ?_
  exact post_ret (v := .bool x5) (fun a ha => jU (vs := [.bool x5]) (.tmp (t := 2) (by kernel_rfl) .nil) ha (by kernel_rfl)) ⟨ua, uj, rfl, ubb, hI⟩
/-- cenotaph/wire.text -/
theorem c82 (w0 w : World) (Z : Hp) (A : HP) (hI : Inv w0 Z w A) (hT : Tabs Z) (a0 : ByteArray) (a1 : Int) (r : WireGot_string) (h0 : wire_text a0 a1 = some r) :
  Calls prog 82 #[.string a0, iv a1] w (fun e w' => e = .returned (.agg (c_WireGot_string r).toArray) ∧ Inv w0 Z w' A) := by
 have e4 := calls_intro (R := (fun e w' => e = .returned (.agg (c_WireGot_string r).toArray) ∧ Inv w0 Z w' A)) (w := w) (args := [.string a0, iv a1]) (fn := Go.Proofs.Tryz.f82) 32 Go.Proofs.Tryz.func82 (by rfl) Go.Proofs.Tryz.ntmps82 (by kernel_rfl)
 refine e4 ?_
 clear e4
 unfold wire_text at h0
 refine cQ (cR [0] ?_)
 refine oC (jA (d := 4) (T := 124) (c_WireGot_string (WireGot_string.mk q8e q8e false)) (by kernel_rfl) ty124 hI (by kernel_rfl) ?_)
 intro b1 w hI
 refine oD (qT (cQ (cR [0, 1, 2, 3, 4, 5, 6, 7, 8] ?_)))
 refine oP (r := [1, 2, 3, 4, 5, 6, 7, 8]) [0] (S' := [(1, iv a1), (4, pb b1), (9, .string a0)]) ?_
 obtain ⟨⟨y3, y4, y5⟩, hc2, h0⟩ := bindS h0
 try dsimp only at h0
 refine oC (jC (d := some 10) (n := 61) (vs := [.string a0]) (by kernel_rfl) en61 (c61 w0 w _ _ hI hT a0 _ hc2) ?_)
 rintro e w ⟨rfl, hI⟩
 refine ⟨_, rfl, ?_⟩
 refine oP (r := []) [2, 3, 4, 5, 6, 7, 8] (S' := [(1, iv a1), (4, pb b1), (5, iv y3), (6, .string y4), (7, .bool y5)]) ?_
 refine oD (qT (cQ ?_))
 obtain ⟨r1, h1, h0⟩ := bindS h0
 refine jM (fun a w => ∃ (x6 : Bool), x6 = r1 ∧ Fr 32 [(4, pb b1), (5, iv y3), (6, .string y4), (23, .bool x6)] a ∧ Inv w0 Z w (star (pt b1 (.cells (c_WireGot_string (WireGot_string.mk q8e q8e false)).toArray 124 (0, 0))) A)) ?_ ?_
 ·
  refine cR [0, 1, 2, 3, 4, 5, 6, 7, 8, 9] ?_
  refine oP (r := [3, 4, 5, 6, 7, 8, 9]) [0, 1, 2] (S' := [(1, iv a1), (4, pb b1), (5, iv y3), (6, .string y4), (16, .bool (!y5))]) ?_
  by_cases hb7 : (!y5) = true
  ·
   rw [if_pos hb7] at h1
   refine OpsT.keep [1, 4, 5, 6, 16] (S' := [(1, iv a1), (4, pb b1), (5, iv y3), (6, .string y4), (16, .bool true)]) (by (try simp only [hb7]); kernel_rfl) ?_
   refine oP (r := []) [3, 4, 5, 6, 7, 8, 9] (S' := [(4, pb b1), (5, iv y3), (6, .string y4), (23, .bool true)]) ?_
   refine oD ?_
   have e := someS h1
   subst e
   exact jT fun a ha => ⟨true, rfl, ha.keep [4, 5, 6, 23] (by kernel_rfl), hI⟩
  ·
   rw [if_neg hb7] at h1
   have hb7 : (!y5) = false := by simpa using hb7
   refine OpsT.keep [1, 4, 5, 6, 16] (S' := [(1, iv a1), (4, pb b1), (5, iv y3), (6, .string y4), (16, .bool false)]) (by (try simp only [hb7]); kernel_rfl) ?_
   refine oP (r := []) [3, 4, 5, 6, 7, 8, 9] (S' := [(4, pb b1), (5, iv y3), (6, .string y4), (23, .bool (decide (y3 > (if a1 < (y4.size : Int) then a1 else (y4.size : Int)))))]) ?_
   refine oD ?_
   have e := someS h1
   subst e
   exact jT fun a ha => ⟨decide (y3 > (if a1 < (y4.size : Int) then a1 else (y4.size : Int))), rfl, ha.keep [4, 5, 6, 23] (by kernel_rfl), hI⟩
 ·
  rintro a w ⟨x6, rfl, ha, hI⟩
  try dsimp only at h0
  refine CodT.of ?_ ha
  by_cases hb8 : x6 = true
  ·
   rw [if_pos hb8] at h0
   refine cY (b := x6) hb8 ?_
   refine cQ (cR [0, 1] ?_)
   refine oP (r := [1]) [0] (S' := [(4, pb b1), (24, .agg (c_WireGot_string (WireGot_string.mk q8e q8e false)).toArray)]) ?_
   refine oC (dS (T := 124) (b := b1) (o := 0) (v := .agg (c_WireGot_string (WireGot_string.mk q8e q8e false)).toArray) (l := c_WireGot_string (WireGot_string.mk q8e q8e false)) (vs := c_WireGot_string (WireGot_string.mk q8e q8e false)) (L' := c_WireGot_string (WireGot_string.mk q8e q8e false)) (by kernel_rfl) ty124 hI (by kernel_rfl) (by kernel_rfl) (by kernel_rfl) (by kernel_rfl) (by kernel_rfl) ?_)
   intro w hI
   refine oD (qT (jE (jR ?_)))
   have hL9 := (ldBN ty124 (l := c_WireGot_string (WireGot_string.mk q8e q8e false)) (o := 0) (cs := c_WireGot_string (WireGot_string.mk q8e q8e false)) (ent_refl _) (by kernel_rfl) (whole _ _ (by kernel_rfl))) w hI
   have hI := hI.drop
   have e := someS h0
   subst e
   refine qK [4] (S' := [(4, pb b1)]) ?_
   exact post_ret (v := .agg (c_WireGot_string (WireGot_string.mk q8e q8e false)).toArray) (fun a ha => jU (vs := [.agg (c_WireGot_string (WireGot_string.mk q8e q8e false)).toArray]) (.cell (t := 4) (T := 124) (ad := ⟨b1, 0, none⟩) (by kernel_rfl) hL9 .nil) ha (by kernel_rfl)) ⟨rfl, hI⟩
  ·
   rw [if_neg hb8] at h0
   refine cN (b := x6) (by simpa using hb8) ?_
   refine jS (qT (cQ ?_))
   refine CodT.drawI (n := 8) [7] (by kernel_rfl) (by kernel_rfl) hI ?_
   intro w hI
   refine gP 0 25 (.string y4) ?_
   refine gP 1 26 (iv y3) ?_
   refine gP 3 28 (.string y4) ?_
   refine gP 4 29 (iv y3) ?_
   obtain ⟨hg10, h0⟩ := guardS h0
   refine gR (i := 2) 2 (Yl.sliceStr01 (d := 27) (T := 9) (s := y4) (hi := y3) (by kernel_rfl) Go.Proofs.Tryz.underlying9 hg10) hI ?_
   obtain ⟨hg11, h0⟩ := guardS h0
   refine gR (i := 5) 2 (Yl.sliceStr10 (d := 30) (T := 9) (s := y4) (lo := y3) (by kernel_rfl) Go.Proofs.Tryz.underlying9 hg11) hI ?_
   refine gP 6 31 (.agg (c_WireGot_string (WireGot_string.mk (sx y4 0 y3) (sx y4 y3 (y4.size : Int)) true)).toArray) ?_
   refine jO (i := 7) (by kernel_rfl) (dS (T := 124) (b := b1) (o := 0) (v := .agg (c_WireGot_string (WireGot_string.mk (sx y4 0 y3) (sx y4 y3 (y4.size : Int)) true)).toArray) (l := c_WireGot_string (WireGot_string.mk q8e q8e false)) (vs := c_WireGot_string (WireGot_string.mk (sx y4 0 y3) (sx y4 y3 (y4.size : Int)) true)) (L' := c_WireGot_string (WireGot_string.mk (sx y4 0 y3) (sx y4 y3 (y4.size : Int)) true)) (by kernel_rfl) ty124 hI (by kernel_rfl) (by kernel_rfl) (by kernel_rfl) (by kernel_rfl) (by kernel_rfl) ?_)
   intro w hI
   refine ⟨fun h => absurd h (by decide), ?_⟩
   refine jD (by kernel_rfl) ?_
   refine qT (jE ?_)
   have hL12 := (ldBN ty124 (l := c_WireGot_string (WireGot_string.mk (sx y4 0 y3) (sx y4 y3 (y4.size : Int)) true)) (o := 0) (cs := c_WireGot_string (WireGot_string.mk (sx y4 0 y3) (sx y4 y3 (y4.size : Int)) true)) (ent_refl _) (by kernel_rfl) (whole _ _ (by kernel_rfl))) w hI
   have hI := hI.drop
   have e := someS h0
   subst e
   refine qK [4] (S' := [(4, pb b1)]) ?_
   exact post_ret (v := .agg (c_WireGot_string (WireGot_string.mk (sx y4 0 y3) (sx y4 y3 (y4.size : Int)) true)).toArray) (fun a ha => jU (vs := [.agg (c_WireGot_string (WireGot_string.mk (sx y4 0 y3) (sx y4 y3 (y4.size : Int)) true)).toArray]) (.cell (t := 4) (T := 124) (ad := ⟨b1, 0, none⟩) (by kernel_rfl) hL12 .nil) ha (by kernel_rfl)) ⟨rfl, hI⟩
/-- (cenotaph/wire.got[string]).parts -/
theorem c83 (w0 w : World) (Z : Hp) (A : HP) (hI : Inv w0 Z w A) (hT : Tabs Z) (a0 : WireGot_string) (r : (ByteArray × ByteArray × Bool)) (h0 : wire_got_string_parts a0 = some r) :
  Calls prog 83 #[.agg (c_WireGot_string a0).toArray] w (fun e w' => e = .returned (.tuple #[.string r.1, .string r.2.1, .bool r.2.2]) ∧ Inv w0 Z w' A) := by
 have e4 := calls_intro (R := (fun e w' => e = .returned (.tuple #[.string r.1, .string r.2.1, .bool r.2.2]) ∧ Inv w0 Z w' A)) (w := w) (args := [.agg (c_WireGot_string a0).toArray]) (fn := Go.Proofs.Tryz.f83) 14 Go.Proofs.Tryz.func83 (by rfl) Go.Proofs.Tryz.ntmps83 (by kernel_rfl)
 refine e4 ?_
 clear e4
 unfold wire_got_string_parts at h0
 refine cQ (cR [0, 1, 2, 3] ?_)
 refine oC (Does.boxL (d := 1) (T := 124) (v := .agg (c_WireGot_string a0).toArray) (c_WireGot_string a0) (by kernel_rfl) hI (by kernel_rfl) ?_)
 intro b1 w hI
 refine oP (r := []) [1, 2, 3] (S' := [(1, pb b1)]) ?_
 refine oD (qT (cQ (cQ (cR [0, 1, 2] ?_))))
 refine oP (r := [1, 2]) [0] (S' := [(1, pb b1), (6, .pointer (some ⟨b1, 2, none⟩))]) ?_
 refine oC (jY (jL (d := 7) (T := 4) (v := .bool a0.ok) (by kernel_rfl) (ldB ty4 (l := c_WireGot_string a0) (o := 2) (v := .bool a0.ok) (ent_refl _) (by kernel_rfl))) hI ?_)
 refine oP (r := []) [2] (S' := [(1, pb b1), (8, .bool (!a0.ok))]) ?_
 refine oD (qT ?_)
 by_cases hb2 : (!a0.ok) = true
 ·
  rw [if_pos hb2] at h0
  refine cY (b := !a0.ok) hb2 ?_
  refine cQ (cR [0] ?_)
  refine oP (r := []) [0] (S' := [(5, .string q8e)]) ?_
  refine oD (qT (cQ (cR [0, 1, 2, 3] ?_)))
  refine oP (r := []) [0, 1, 2, 3] (S' := [(2, .string q8e), (3, .string q8e), (4, .bool false)]) ?_
  refine oD (qT (jE (jR ?_)))
  have hI := hI.drop
  have e := someS h0
  subst e
  refine qK [2, 3, 4] (S' := [(2, .string q8e), (3, .string q8e), (4, .bool false)]) ?_
  exact post_ret (v := .tuple #[.string q8e, .string q8e, .bool false]) (fun a ha => jU (vs := [.string q8e, .string q8e, .bool false]) (.tmp (t := 2) (by kernel_rfl) (.tmp (t := 3) (by kernel_rfl) (.tmp (t := 4) (by kernel_rfl) .nil))) ha (by kernel_rfl)) ⟨rfl, hI⟩
 ·
  rw [if_neg hb2] at h0
  refine cN (b := !a0.ok) (by simpa using hb2) ?_
  refine jS (qT (cQ ?_))
  refine CodT.drawI (n := 7) [] (by kernel_rfl) (by kernel_rfl) hI ?_
  intro w hI
  refine gP 0 10 (pb b1) ?_
  refine gP 2 12 (.pointer (some ⟨b1, 1, none⟩)) ?_
  refine gR (i := 1) 2 (jL (d := 11) (T := 9) (v := .string a0.x) (by kernel_rfl) (ldB ty9 (l := c_WireGot_string a0) (o := 0) (v := .string a0.x) (ent_refl _) (by kernel_rfl))) hI ?_
  refine gP 4 2 (.string a0.x) ?_
  refine gR (i := 3) 2 (jL (d := 13) (T := 9) (v := .string a0.rest) (by kernel_rfl) (ldB ty9 (l := c_WireGot_string a0) (o := 1) (v := .string a0.rest) (ent_refl _) (by kernel_rfl))) hI ?_
  refine gP 5 3 (.string a0.rest) ?_
  refine gP 6 4 (.bool true) ?_
  refine jD (by kernel_rfl) ?_
  refine qT (jE ?_)
  have hI := hI.drop
  have e := someS h0
  subst e
  refine qK [2, 3, 4] (S' := [(2, .string a0.x), (3, .string a0.rest), (4, .bool true)]) ?_
  exact post_ret (v := .tuple #[.string a0.x, .string a0.rest, .bool true]) (fun a ha => jU (vs := [.string a0.x, .string a0.rest, .bool true]) (.tmp (t := 2) (by kernel_rfl) (.tmp (t := 3) (by kernel_rfl) (.tmp (t := 4) (by kernel_rfl) .nil))) ha (by kernel_rfl)) ⟨rfl, hI⟩
/-- cenotaph/wire.GetText -/
theorem c63 (w0 w : World) (Z : Hp) (A : HP) (hI : Inv w0 Z w A) (hT : Tabs Z) (a0 : ByteArray) (a1 : Int) (r : (ByteArray × ByteArray × Bool)) (h0 : wire_GetText a0 a1 = some r) :
  Calls prog 63 #[.string a0, iv a1] w (fun e w' => e = .returned (.tuple #[.string r.1, .string r.2.1, .bool r.2.2]) ∧ Inv w0 Z w' A) := by
 have e4 := calls_intro (R := (fun e w' => e = .returned (.tuple #[.string r.1, .string r.2.1, .bool r.2.2]) ∧ Inv w0 Z w' A)) (w := w) (args := [.string a0, iv a1]) (fn := Go.Proofs.Tryz.f63) 14 Go.Proofs.Tryz.func63 (by rfl) Go.Proofs.Tryz.ntmps63 (by kernel_rfl)
 refine e4 ?_
 clear e4
 unfold wire_GetText at h0
 refine cQ (cR [0, 1, 2] ?_)
 refine oP (r := []) [0, 1, 2] (S' := [(0, .string a0), (1, iv a1)]) ?_
 refine oD (qT (cQ (cR [0, 1, 2, 3, 4, 5, 6, 7, 8, 9] ?_)))
 refine oP (r := [2, 3, 4, 5, 6, 7, 8, 9]) [0, 1] (S' := [(7, .string a0), (8, iv a1)]) ?_
 obtain ⟨y2, hc1, h0⟩ := bindS h0
 try dsimp only at h0
 refine oC (jC (d := some 9) (n := 82) (vs := [.string a0, iv a1]) (by kernel_rfl) en82 (c82 w0 w _ _ hI hT a0 a1 _ hc1) ?_)
 rintro e w ⟨rfl, hI⟩
 refine ⟨_, rfl, ?_⟩
 obtain ⟨⟨y4, y5, y6⟩, hc3, h0⟩ := bindS h0
 try dsimp only at h0
 refine oC (jC (d := some 10) (n := 83) (vs := [.agg (c_WireGot_string y2).toArray]) (by kernel_rfl) en83 (c83 w0 w _ _ hI hT y2 _ hc3) ?_)
 rintro e w ⟨rfl, hI⟩
 refine ⟨_, rfl, ?_⟩
 refine oP (r := []) [4, 5, 6, 7, 8, 9] (S' := [(4, .string y4), (5, .string y5), (6, .bool y6)]) ?_
 refine oD (qT (jE ?_))
 have e := someS h0
 subst e
 refine qK [4, 5, 6] (S' := [(4, .string y4), (5, .string y5), (6, .bool y6)]) ?_
 exact post_ret (v := .tuple #[.string y4, .string y5, .bool y6]) (fun a ha => jU (vs := [.string y4, .string y5, .bool y6]) (.tmp (t := 4) (by kernel_rfl) (.tmp (t := 5) (by kernel_rfl) (.tmp (t := 6) (by kernel_rfl) .nil))) ha (by kernel_rfl)) ⟨rfl, hI⟩
/-- cenotaph/event.words -/
theorem c57 (w0 w : World) (Z : Hp) (A : HP) (hI : Inv w0 Z w A) (hT : Tabs Z)  (r : (List ByteArray)) (h0 : event_words = some r) :
  Calls prog 57 #[] w (fun e w' => e = .returned (.agg (cA Value.string r).toArray) ∧ r.length = 8 ∧ Inv w0 Z w' A) := by
 have e4 := calls_intro (R := (fun e w' => e = .returned (.agg (cA Value.string r).toArray) ∧ r.length = 8 ∧ Inv w0 Z w' A)) (w := w) (args := []) (fn := Go.Proofs.Tryz.f57) 2 Go.Proofs.Tryz.func57 (by rfl) Go.Proofs.Tryz.ntmps57 (by kernel_rfl)
 refine e4 ?_
 clear e4
 unfold event_words at h0
 refine cQ (cR [0] ?_)
 refine oC (jA (d := 0) (T := 92) (cA Value.string (List.replicate 8 (q8e : ByteArray))) (by kernel_rfl) ty92 hI (by kernel_rfl) ?_)
 intro b1 w hI
 refine oD (qT (cQ (cR [0, 1] ?_)))
 refine oP (r := [1]) [0] (S' := [(0, pb b1), (1, .agg (cA Value.string ([(⟨#[99, 114, 101, 97, 116, 101]⟩ : ByteArray), (⟨#[97, 112, 112, 101, 110, 100]⟩ : ByteArray), (⟨#[115, 101, 97, 108]⟩ : ByteArray), (⟨#[101, 120, 116, 101, 110, 100]⟩ : ByteArray), (⟨#[104, 111, 108, 100]⟩ : ByteArray), (⟨#[114, 101, 108, 101, 97, 115, 101]⟩ : ByteArray), (⟨#[100, 101, 108, 101, 116, 101]⟩ : ByteArray), (⟨#[116, 105, 99, 107]⟩ : ByteArray)] : List ByteArray)).toArray)]) ?_
 refine oC (jV (T := 92) (b := b1) (n := 8) (xs := (List.replicate 8 (q8e : ByteArray))) (ys := ([(⟨#[99, 114, 101, 97, 116, 101]⟩ : ByteArray), (⟨#[97, 112, 112, 101, 110, 100]⟩ : ByteArray), (⟨#[115, 101, 97, 108]⟩ : ByteArray), (⟨#[101, 120, 116, 101, 110, 100]⟩ : ByteArray), (⟨#[104, 111, 108, 100]⟩ : ByteArray), (⟨#[114, 101, 108, 101, 97, 115, 101]⟩ : ByteArray), (⟨#[100, 101, 108, 101, 116, 101]⟩ : ByteArray), (⟨#[116, 105, 99, 107]⟩ : ByteArray)] : List ByteArray)) (by kernel_rfl) ty92 hI (fun _ => rfl) (by kernel_rfl) (by kernel_rfl) ?_)
 intro w hI
 refine oD (qT (jE ?_))
 have hL2 := (ldBN ty92 (l := cA Value.string ([(⟨#[99, 114, 101, 97, 116, 101]⟩ : ByteArray), (⟨#[97, 112, 112, 101, 110, 100]⟩ : ByteArray), (⟨#[115, 101, 97, 108]⟩ : ByteArray), (⟨#[101, 120, 116, 101, 110, 100]⟩ : ByteArray), (⟨#[104, 111, 108, 100]⟩ : ByteArray), (⟨#[114, 101, 108, 101, 97, 115, 101]⟩ : ByteArray), (⟨#[100, 101, 108, 101, 116, 101]⟩ : ByteArray), (⟨#[116, 105, 99, 107]⟩ : ByteArray)] : List ByteArray)) (o := 0) (cs := cA Value.string ([(⟨#[99, 114, 101, 97, 116, 101]⟩ : ByteArray), (⟨#[97, 112, 112, 101, 110, 100]⟩ : ByteArray), (⟨#[115, 101, 97, 108]⟩ : ByteArray), (⟨#[101, 120, 116, 101, 110, 100]⟩ : ByteArray), (⟨#[104, 111, 108, 100]⟩ : ByteArray), (⟨#[114, 101, 108, 101, 97, 115, 101]⟩ : ByteArray), (⟨#[100, 101, 108, 101, 116, 101]⟩ : ByteArray), (⟨#[116, 105, 99, 107]⟩ : ByteArray)] : List ByteArray)) (ent_refl _) ((cA_length _ _).trans (by kernel_rfl)) (whole _ _ ((cA_length _ _).trans (by kernel_rfl)))) w hI
 have hI := hI.drop
 have e := someS h0
 subst e
 refine qK [0] (S' := [(0, pb b1)]) ?_
 exact post_ret (v := .agg (cA Value.string ([(⟨#[99, 114, 101, 97, 116, 101]⟩ : ByteArray), (⟨#[97, 112, 112, 101, 110, 100]⟩ : ByteArray), (⟨#[115, 101, 97, 108]⟩ : ByteArray), (⟨#[101, 120, 116, 101, 110, 100]⟩ : ByteArray), (⟨#[104, 111, 108, 100]⟩ : ByteArray), (⟨#[114, 101, 108, 101, 97, 115, 101]⟩ : ByteArray), (⟨#[100, 101, 108, 101, 116, 101]⟩ : ByteArray), (⟨#[116, 105, 99, 107]⟩ : ByteArray)] : List ByteArray)).toArray) (fun a ha => jU (vs := [.agg (cA Value.string ([(⟨#[99, 114, 101, 97, 116, 101]⟩ : ByteArray), (⟨#[97, 112, 112, 101, 110, 100]⟩ : ByteArray), (⟨#[115, 101, 97, 108]⟩ : ByteArray), (⟨#[101, 120, 116, 101, 110, 100]⟩ : ByteArray), (⟨#[104, 111, 108, 100]⟩ : ByteArray), (⟨#[114, 101, 108, 101, 97, 115, 101]⟩ : ByteArray), (⟨#[100, 101, 108, 101, 116, 101]⟩ : ByteArray), (⟨#[116, 105, 99, 107]⟩ : ByteArray)] : List ByteArray)).toArray]) (.cell (t := 0) (T := 92) (ad := ⟨b1, 0, none⟩) (by kernel_rfl) hL2 .nil) ha (by kernel_rfl)) ⟨rfl, (by kernel_rfl), hI⟩
/-- cenotaph/event.get -/
theorem c84 (w0 w : World) (Z : Hp) (A : HP) (hI : Inv w0 Z w A) (hT : Tabs Z) (a0 : Dyn88) (a1 : ByteArray) (r : (Dyn88 × ByteArray × Bool)) (h0 : event_get a0 a1 = some r) :
  Calls prog 84 #[dynV88 a0, .string a1] w (fun e w' => e = .returned (.tuple #[dynV88 r.1, .string r.2.1, .bool r.2.2]) ∧ Inv w0 Z w' A) := by
 have e4 := calls_intro (R := (fun e w' => e = .returned (.tuple #[dynV88 r.1, .string r.2.1, .bool r.2.2]) ∧ Inv w0 Z w' A)) (w := w) (args := [dynV88 a0, .string a1]) (fn := Go.Proofs.Tryz.f84) 53 Go.Proofs.Tryz.func84 (by rfl) Go.Proofs.Tryz.ntmps84 (by kernel_rfl)
 refine e4 ?_
 clear e4
 unfold event_get at h0
 refine cQ (cR [0, 1, 2] ?_)
 refine oP (r := []) [0, 1, 2] (S' := [(0, dynV88 a0), (1, .string a1)]) ?_
 refine oD (qT ?_)
 obtain ⟨r1, h1, h0⟩ := bindS h0
 refine jM (fun a w => .inr () = r1 ∧ Fr 53 [(1, .string a1)] a ∧ Inv w0 Z w A) ?_ ?_
 ·
  refine cQ (cR [0] ?_)
  refine oP (r := []) [0] (S' := [(1, .string a1), (16, dynV88 a0)]) ?_
  refine oD (qT (jB (cQ (cR [0, 1, 2] ?_))))
  rcases hd1 : a0 with _ | z2 | z3 | z4
  ·
   simp only [hd1] at h1
   refine OpsT.keep [1, 16] (S' := [(1, .string a1), (16, .nilIface)]) (by (try simp only [hd1]); kernel_rfl) ?_
   refine oP (r := []) [0, 1, 2] (S' := [(1, .string a1), (16, .nilIface), (18, .bool false)]) ?_
   refine oD (qT ?_)
   refine CodT.no (by kernel_rfl) ?_
   refine cQ (cR [0, 1, 2] ?_)
   refine oP (r := []) [0, 1, 2] (S' := [(1, .string a1), (31, .bool false)]) ?_
   refine oD (qT ?_)
   refine CodT.no (by kernel_rfl) ?_
   refine jS (jN ?_)
   have e := someS h1
   subst e
   exact jT fun a ha => ⟨rfl, ha.keep [1] (by kernel_rfl), hI⟩
  ·
   simp only [hd1] at h1
   refine OpsT.keep [1, 16] (S' := [(1, .string a1), (16, .iface 108 (.string z2))]) (by (try simp only [hd1]); kernel_rfl) ?_
   refine oP (r := []) [0, 1, 2] (S' := [(1, .string a1), (16, .iface 108 (.string z2)), (18, .bool true)]) ?_
   refine oD (qT ?_)
   refine CodT.yes (by kernel_rfl) ?_
   refine cQ (cR [0, 1, 2, 3, 4, 5, 6, 7, 8] ?_)
   refine oP (r := [1, 2, 3, 4, 5, 6, 7, 8]) [0] (S' := [(21, .string a1)]) ?_
   obtain ⟨⟨y6, y7, y8⟩, hc5, h1⟩ := bindS h1
   try dsimp only at h1
   refine oC (jC (d := some 22) (n := 63) (vs := [.string a1, iv 100]) (by kernel_rfl) en63 (c63 w0 w _ _ hI hT a1 100 _ hc5) ?_)
   rintro e w ⟨rfl, hI⟩
   refine ⟨_, rfl, ?_⟩
   refine oP (r := []) [2, 3, 4, 5, 6, 7, 8] (S' := [(7, .string y6), (8, .string y7), (9, .bool y8)]) ?_
   refine oD (qT (cQ (cR [0, 1, 2, 3, 4, 5, 6] ?_)))
   refine oP (r := []) [0, 1, 2, 3, 4, 5, 6] (S' := [(4, .iface 108 (.string y6)), (5, .string y7), (6, .bool y8)]) ?_
   refine oD (qT (jE (jQ (jR ?_))))
   have e := someS h1
   subst e
   try dsimp only at h0
   have e := someS h0
   subst e
   refine qK [4, 5, 6] (S' := [(4, .iface 108 (.string y6)), (5, .string y7), (6, .bool y8)]) ?_
   exact post_ret (v := .tuple #[.iface 108 (.string y6), .string y7, .bool y8]) (fun a ha => jU (vs := [.iface 108 (.string y6), .string y7, .bool y8]) (.tmp (t := 4) (by kernel_rfl) (.tmp (t := 5) (by kernel_rfl) (.tmp (t := 6) (by kernel_rfl) .nil))) ha (by kernel_rfl)) ⟨rfl, hI⟩
  ·
   simp only [hd1] at h1
   refine OpsT.keep [1, 16] (S' := [(1, .string a1), (16, .iface 111 (iv z3))]) (by (try simp only [hd1]); kernel_rfl) ?_
   refine oP (r := []) [0, 1, 2] (S' := [(1, .string a1), (16, .iface 111 (iv z3)), (18, .bool false)]) ?_
   refine oD (qT ?_)
   refine CodT.no (by kernel_rfl) ?_
   refine cQ (cR [0, 1, 2] ?_)
   refine oP (r := []) [0, 1, 2] (S' := [(1, .string a1), (31, .bool false)]) ?_
   refine oD (qT ?_)
   refine CodT.no (by kernel_rfl) ?_
   refine jS (jN ?_)
   have e := someS h1
   subst e
   exact jT fun a ha => ⟨rfl, ha.keep [1] (by kernel_rfl), hI⟩
  ·
   simp only [hd1] at h1
   obtain ⟨hg9, h1⟩ := guardS h1
   refine OpsT.keep [1, 16] (S' := [(1, .string a1), (16, .iface 112 (.agg (q8c z4).toArray))]) (by (try simp only [hd1]); kernel_rfl) ?_
   refine oP (r := []) [0, 1, 2] (S' := [(1, .string a1), (16, .iface 112 (.agg (q8c z4).toArray)), (18, .bool false)]) ?_
   refine oD (qT ?_)
   refine CodT.no (by kernel_rfl) ?_
   refine cQ (cR [0, 1, 2] ?_)
   refine oP (r := []) [0, 1, 2] (S' := [(1, .string a1), (31, .bool true)]) ?_
   refine oD (qT ?_)
   refine CodT.yes (by kernel_rfl) ?_
   refine cQ (cR [0, 1, 2, 3, 4, 5, 6, 7, 8, 9] ?_)
   refine oP (r := [1, 2, 3, 4, 5, 6, 7, 8, 9]) [0] (S' := [(34, .string a1)]) ?_
   obtain ⟨⟨y11, y13, y14⟩, hc10, h1⟩ := bindS h1
   try dsimp only at h1
   refine oC (jC (d := some 35) (n := 62) (vs := [.string a1]) (by kernel_rfl) en62 (c62 w0 w _ _ hI hT a1 _ hc10) ?_)
   rintro e w ⟨rfl, hl12, hI⟩
   refine ⟨_, rfl, ?_⟩
   refine oP (r := [6, 7, 8, 9]) [2, 3, 4, 5] (S' := [(36, .agg (q8c y11).toArray), (37, .string y13), (38, .bool y14)]) ?_
   refine oC (jA (d := 10) (T := 23) (q8c q8z) (by kernel_rfl) ty23 hI (by kernel_rfl) ?_)
   intro b15 w hI
   refine oC (jV (T := 23) (b := b15) (n := 32) (xs := q8z) (ys := y11) (by kernel_rfl) ty23 hI (fun _ => rfl) (by kernel_rfl) hl12 ?_)
   intro w hI
   refine oP (r := []) [8, 9] (S' := [(10, pb b15), (11, .string y13), (12, .bool y14)]) ?_
   refine oD (qT (cQ (cR [0, 1, 2, 3, 4, 5, 6] ?_)))
   refine oC (jY (jL (d := 39) (T := 23) (v := .agg (q8c y11).toArray) (by kernel_rfl) (ldBN ty23 (l := cA (Value.int .u8) y11) (o := 0) (cs := cA (Value.int .u8) y11) (ent_refl _) ((cA_length _ _).trans hl12) (whole _ _ ((cA_length _ _).trans hl12)))) hI ?_)
   refine oP (r := []) [1, 2, 3, 4, 5, 6] (S' := [(4, .iface 112 (.agg (q8c y11).toArray)), (5, .string y13), (6, .bool y14)]) ?_
   refine oD (qT (jE (jQ (jR ?_))))
   have hI := hI.drop
   have e := someS h1
   subst e
   try dsimp only at h0
   have e := someS h0
   subst e
   refine qK [4, 5, 6] (S' := [(4, .iface 112 (.agg (q8c y11).toArray)), (5, .string y13), (6, .bool y14)]) ?_
   exact post_ret (v := .tuple #[.iface 112 (.agg (q8c y11).toArray), .string y13, .bool y14]) (fun a ha => jU (vs := [.iface 112 (.agg (q8c y11).toArray), .string y13, .bool y14]) (.tmp (t := 4) (by kernel_rfl) (.tmp (t := 5) (by kernel_rfl) (.tmp (t := 6) (by kernel_rfl) .nil))) ha (by kernel_rfl)) ⟨rfl, hI⟩
 ·
  rintro a w ⟨rfl, ha, hI⟩
  try dsimp only at h0
  refine CodT.of ?_ ha
  refine cQ (cR [0, 1, 2, 3, 4, 5, 6, 7, 8] ?_)
  refine oP (r := [1, 2, 3, 4, 5, 6, 7, 8]) [0] (S' := [(44, .string a1)]) ?_
  obtain ⟨⟨y17, y18, y19⟩, hc16, h0⟩ := bindS h0
  try dsimp only at h0
  refine oC (jC (d := some 45) (n := 61) (vs := [.string a1]) (by kernel_rfl) en61 (c61 w0 w _ _ hI hT a1 _ hc16) ?_)
  rintro e w ⟨rfl, hI⟩
  refine ⟨_, rfl, ?_⟩
  refine oP (r := []) [2, 3, 4, 5, 6, 7, 8] (S' := [(13, iv y17), (14, .string y18), (15, .bool y19)]) ?_
  refine oD (qT (cQ (cR [0, 1, 2, 3, 4, 5, 6] ?_)))
  refine oP (r := []) [0, 1, 2, 3, 4, 5, 6] (S' := [(4, .iface 111 (iv y17)), (5, .string y18), (6, .bool y19)]) ?_
  refine oD (qT (jE ?_))
  have e := someS h0
  subst e
  refine qK [4, 5, 6] (S' := [(4, .iface 111 (iv y17)), (5, .string y18), (6, .bool y19)]) ?_
  exact post_ret (v := .tuple #[.iface 111 (iv y17), .string y18, .bool y19]) (fun a ha => jU (vs := [.iface 111 (iv y17), .string y18, .bool y19]) (.tmp (t := 4) (by kernel_rfl) (.tmp (t := 5) (by kernel_rfl) (.tmp (t := 6) (by kernel_rfl) .nil))) ha (by kernel_rfl)) ⟨rfl, hI⟩
/-- cenotaph/event.Get -/
theorem c64 (w0 w : World) (Z : Hp) (A : HP) (hI : Inv w0 Z w A) (hT : Tabs Z) (a0 : ByteArray) (r : (ApiEvent × ByteArray × Bool)) (h0 : event_Get a0 = some r) :
  Calls prog 64 #[.string a0] w (fun e w' => e = .returned (.tuple #[.agg (c_ApiEvent r.1).toArray, .string r.2.1, .bool r.2.2]) ∧ r.1.Sum.length = 32 ∧ Inv w0 Z w' A) := by
 have e4 := calls_intro (R := (fun e w' => e = .returned (.tuple #[.agg (c_ApiEvent r.1).toArray, .string r.2.1, .bool r.2.2]) ∧ r.1.Sum.length = 32 ∧ Inv w0 Z w' A)) (w := w) (args := [.string a0]) (fn := Go.Proofs.Tryz.f64) 62 Go.Proofs.Tryz.func64 (by rfl) Go.Proofs.Tryz.ntmps64 (by kernel_rfl)
 refine e4 ?_
 clear e4
 unfold event_Get at h0
 refine cQ (cR [0, 1, 2] ?_)
 refine oC (jA (d := 2) (T := 50) (c_ApiEvent (ApiEvent.mk 0 0 q8e 0 0 q8z)) (by kernel_rfl) ty50 hI (by kernel_rfl) ?_)
 intro b1 w hI
 refine oP (r := []) [1, 2] (S' := [(0, .string a0), (2, pb b1)]) ?_
 refine oD (qT (cQ (cR [0, 1, 2, 3, 4, 5, 6, 7, 8] ?_)))
 refine oP (r := [1, 2, 3, 4, 5, 6, 7, 8]) [0] (S' := [(2, pb b1), (13, .string a0)]) ?_
 obtain ⟨⟨y3, y4, y5⟩, hc2, h0⟩ := bindS h0
 try dsimp only at h0
 refine oC (jC (d := some 14) (n := 61) (vs := [.string a0]) (by kernel_rfl) en61 (c61 w0 w _ _ hI hT a0 _ hc2) ?_)
 rintro e w ⟨rfl, hI⟩
 refine ⟨_, rfl, ?_⟩
 refine oP (r := []) [2, 3, 4, 5, 6, 7, 8] (S' := [(2, pb b1), (5, iv y3), (6, .string y4), (7, .bool y5)]) ?_
 refine oD (qT (cQ ?_))
 obtain ⟨r1, h1, h0⟩ := bindS h0
 refine jM (fun a w => ∃ (x6 : Bool), x6 = r1 ∧ Fr 62 [(2, pb b1), (5, iv y3), (6, .string y4), (25, .bool x6)] a ∧ Inv w0 Z w (star (pt b1 (.cells (c_ApiEvent (ApiEvent.mk 0 0 q8e 0 0 q8z)).toArray 50 (0, 0))) A)) ?_ ?_
 ·
  refine cR [0, 1, 2, 3, 4, 5, 6, 7] ?_
  refine oP (r := [3, 4, 5, 6, 7]) [0, 1, 2] (S' := [(2, pb b1), (5, iv y3), (6, .string y4), (20, .bool (!y5))]) ?_
  by_cases hb7 : (!y5) = true
  ·
   rw [if_pos hb7] at h1
   refine OpsT.keep [2, 5, 6, 20] (S' := [(2, pb b1), (5, iv y3), (6, .string y4), (20, .bool true)]) (by (try simp only [hb7]); kernel_rfl) ?_
   refine oP (r := []) [3, 4, 5, 6, 7] (S' := [(2, pb b1), (5, iv y3), (6, .string y4), (25, .bool true)]) ?_
   refine oD ?_
   have e := someS h1
   subst e
   exact jT fun a ha => ⟨true, rfl, ha.keep [2, 5, 6, 25] (by kernel_rfl), hI⟩
  ·
   rw [if_neg hb7] at h1
   have hb7 : (!y5) = false := by simpa using hb7
   refine OpsT.keep [2, 5, 6, 20] (S' := [(2, pb b1), (5, iv y3), (6, .string y4), (20, .bool false)]) (by (try simp only [hb7]); kernel_rfl) ?_
   refine oP (r := [4, 5, 6, 7]) [3] (S' := [(2, pb b1), (5, iv y3), (6, .string y4), (20, .bool false), (21, iv y3)]) ?_
   obtain ⟨y9, hc8, h1⟩ := bindS h1
   try dsimp only at h1
   refine oC (jC (d := some 22) (n := 57) (vs := []) (by kernel_rfl) en57 (c57 w0 w _ _ hI hT _ hc8) ?_)
   rintro e w ⟨rfl, hl10, hI⟩
   refine ⟨_, rfl, ?_⟩
   refine oP (r := []) [5, 6, 7] (S' := [(2, pb b1), (5, iv y3), (6, .string y4), (25, .bool (decide (y3 ≥ 8)))]) ?_
   refine oD ?_
   have e := someS h1
   subst e
   exact jT fun a ha => ⟨decide (y3 ≥ 8), rfl, ha.keep [2, 5, 6, 25] (by kernel_rfl), hI⟩
 ·
  rintro a w ⟨x6, rfl, ha, hI⟩
  try dsimp only at h0
  refine CodT.of ?_ ha
  by_cases hb11 : x6 = true
  ·
   rw [if_pos hb11] at h0
   refine cY (b := x6) hb11 ?_
   refine cQ (cR [0, 1, 2, 3] ?_)
   refine oP (r := [1, 2, 3]) [0] (S' := [(2, pb b1), (26, .agg (c_ApiEvent (ApiEvent.mk 0 0 q8e 0 0 q8z)).toArray)]) ?_
   refine oC (dS (T := 50) (b := b1) (o := 0) (v := .agg (c_ApiEvent (ApiEvent.mk 0 0 q8e 0 0 q8z)).toArray) (l := c_ApiEvent (ApiEvent.mk 0 0 q8e 0 0 q8z)) (vs := c_ApiEvent (ApiEvent.mk 0 0 q8e 0 0 q8z)) (L' := c_ApiEvent (ApiEvent.mk 0 0 q8e 0 0 q8z)) (by kernel_rfl) ty50 hI (by kernel_rfl) (len_ApiEvent _ (by kernel_rfl)) (by rw [(len_ApiEvent _ (by kernel_rfl))]; kernel_rfl) (ones_app _ _ (by kernel_rfl) (ones_cA _)) (lset_all _ _ (Eq.trans (len_ApiEvent _ (by kernel_rfl)) (Eq.symm (len_ApiEvent _ (by kernel_rfl))))) ?_)
   intro w hI
   refine oP (r := []) [2, 3] (S' := [(2, pb b1), (3, .string q8e), (4, .bool false)]) ?_
   refine oD (qT (jE (jR ?_)))
   have hL12 := (ldBN ty50 (l := c_ApiEvent (ApiEvent.mk 0 0 q8e 0 0 q8z)) (o := 0) (cs := c_ApiEvent (ApiEvent.mk 0 0 q8e 0 0 q8z)) (ent_refl _) (len_ApiEvent _ (by kernel_rfl)) (whole _ _ (len_ApiEvent _ (by kernel_rfl)))) w hI
   have hI := hI.drop
   have e := someS h0
   subst e
   refine qK [2, 3, 4] (S' := [(2, pb b1), (3, .string q8e), (4, .bool false)]) ?_
   exact post_ret (v := .tuple #[.agg (c_ApiEvent (ApiEvent.mk 0 0 q8e 0 0 q8z)).toArray, .string q8e, .bool false]) (fun a ha => jU (vs := [.agg (c_ApiEvent (ApiEvent.mk 0 0 q8e 0 0 q8z)).toArray, .string q8e, .bool false]) (.cell (t := 2) (T := 50) (ad := ⟨b1, 0, none⟩) (by kernel_rfl) hL12 (.tmp (t := 3) (by kernel_rfl) (.tmp (t := 4) (by kernel_rfl) .nil))) ha (by kernel_rfl)) ⟨rfl, (by kernel_rfl), hI⟩
  ·
   rw [if_neg hb11] at h0
   refine cN (b := x6) (by simpa using hb11) ?_
   refine jS (qT (cQ (cR [0, 1] ?_)))
   refine oP (r := []) [0, 1] (S' := [(2, pb b1), (6, .string y4), (8, iv y3)]) ?_
   refine oD (qT (cQ (cR [0, 1, 2, 3] ?_)))
   refine oP (r := [2, 3]) [0, 1] (S' := [(2, pb b1), (6, .string y4), (8, iv y3), (29, .agg (c_ApiEvent (ApiEvent.mk y3 0 q8e 0 0 q8z)).toArray)]) ?_
   obtain ⟨y14, hc13, h0⟩ := bindS h0
   try dsimp only at h0
   refine oC (jC (d := some 30) (n := 52) (vs := [.agg (c_ApiEvent (ApiEvent.mk y3 0 q8e 0 0 q8z)).toArray]) (by kernel_rfl) en52 (c52 w0 w _ _ hI hT (ApiEvent.mk y3 0 q8e 0 0 q8z) (by kernel_rfl) _ hc13) ?_)
   rintro e w ⟨A15, cp16, rfl, hI⟩
   refine ⟨_, rfl, ?_⟩
   refine oP (r := []) [3] (S' := [(2, pb b1), (6, .string y4), (8, iv y3), (9, .slice A15 y14.length cp16)]) ?_
   refine oD (qT (cQ (cQ (cR [0, 1, 2] ?_))))
   refine oP (r := []) [0, 1, 2] (S' := [(2, pb b1), (6, .string y4), (8, iv y3), (9, .slice A15 y14.length cp16), (32, iv (y14.length : Int)), (33, iv 0)]) ?_
   refine oD (qT ?_)
   obtain ⟨r1, h1, h0⟩ := bindS h0
   refine CodT.meet1 (fun a w => ∃ (x17 : ByteArray) (x18 : (List Dyn88)) (A19 : Option Addr) (cp20 : Nat), .inr (x17, x18) = r1 ∧ Fr 62 [(2, pb b1), (6, .string x17), (8, iv y3), (9, .slice A19 x18.length cp20)] a ∧ Inv w0 Z w (star (ownS 88 cD88 1 A19 cp20 x18) (star (pt b1 (.cells (c_ApiEvent (ApiEvent.mk 0 0 q8e 0 0 q8z)).toArray 50 (0, 0))) A))) ?_ ?_
   ·
    refine jB ?_
    refine (fun a ha => wp_loopN (fun k a w => ∃ (x21 : ByteArray) (x22 : (List Dyn88)) (x25 : Int) (A23 : Option Addr) (cp24 : Nat), event_Get.l0 y14 k x21 x22 x25 = some r1 ∧ Fr 62 [(2, pb b1), (6, .string x21), (8, iv y3), (9, .slice A23 x22.length cp24), (32, iv (y14.length : Int)), (33, iv x25)] a ∧ Inv w0 Z w (star (ownS 88 cD88 1 A23 cp24 x22) (star (pt b1 (.cells (c_ApiEvent (ApiEvent.mk 0 0 q8e 0 0 q8z)).toArray 50 (0, 0))) A))) ?_ FU a w ⟨y4, y14, 0, A15, cp16, h1, ha.keep [2, 6, 8, 9, 32, 33] (by kernel_rfl), hI⟩)
    clear h1 hI
    rintro k a w ⟨x21, x22, x25, A23, cp24, h1, ha, hI⟩
    rcases k with _ | k
    ·
     cases h1
    simp only [event_Get.l0] at h1
    refine CodT.of ?_ ha
    refine cQ (cR [0] ?_)
    refine oP (r := []) [0] (S' := [(2, pb b1), (6, .string x21), (8, iv y3), (9, .slice A23 x22.length cp24), (32, iv (y14.length : Int)), (33, iv x25), (34, .bool (decide (x25 < (y14.length : Int))))]) ?_
    refine oD (qT (cQ ?_))
    by_cases hb26 : (decide (x25 < (y14.length : Int))) = true
    ·
     rw [if_pos hb26] at h1
     refine cY (b := decide (x25 < (y14.length : Int))) hb26 ?_
     refine jS (qT (cQ (jB (cQ (cR [0, 1] ?_)))))
     refine oP (r := []) [0, 1] (S' := [(2, pb b1), (6, .string x21), (8, iv y3), (9, .slice A23 x22.length cp24), (10, iv x25), (32, iv (y14.length : Int)), (33, iv x25)]) ?_
     refine oD (qT (cQ (cR [0, 1, 2, 3, 4, 5, 6, 7, 8, 9, 10, 11, 12, 13, 14, 15] ?_)))
     refine oP (r := [4, 5, 6, 7, 8, 9, 10, 11, 12, 13, 14, 15]) [0, 1, 2, 3] (S' := [(2, pb b1), (6, .string x21), (8, iv y3), (9, .slice A23 x22.length cp24), (32, iv (y14.length : Int)), (33, iv x25), (37, .slice A23 x22.length cp24), (38, iv x25), (39, .slice A23 x22.length cp24), (40, iv x25)]) ?_
     obtain ⟨hg27, h1⟩ := guardS h1
     obtain ⟨g28, hA29, hr30, hl31⟩ := ownS_get hI hg27.1 hg27.2
     refine oC (jY (Yl.indexSlice (d := 41) (T := 85) (cc := cp24) (k := .i64) (j := x25) (g := g28) (o := 0) (by kernel_rfl) Go.Proofs.Tryz.underlying85 ty88 hA29 hg27.1 hg27.2) hI ?_)
     refine oC (jY (jL (d := 42) (T := 88) (v := dynV88 (gt x22 x25)) (by kernel_rfl) (ldR ty88 (v := dynV88 (gt x22 x25)) 0 (fun w hC => hr30 w0 w _ hC) (by kernel_rfl))) hI ?_)
     refine oP (r := [7, 8, 9, 10, 11, 12, 13, 14, 15]) [6] (S' := [(2, pb b1), (8, iv y3), (9, .slice A23 x22.length cp24), (32, iv (y14.length : Int)), (33, iv x25), (37, .slice A23 x22.length cp24), (38, iv x25), (42, dynV88 (gt x22 x25)), (43, .string x21)]) ?_
     obtain ⟨⟨y33, y34, y35⟩, hc32, h1⟩ := bindS h1
     try dsimp only at h1
     refine oC (jC (d := some 44) (n := 84) (vs := [dynV88 (gt x22 x25), .string x21]) (by kernel_rfl) en84 (c84 w0 w _ _ hI hT (gt x22 x25) x21 _ hc32) ?_)
     rintro e w ⟨rfl, hI⟩
     refine ⟨_, rfl, ?_⟩
     refine oP (r := [12, 13, 14, 15]) [8, 9, 10, 11] (S' := [(2, pb b1), (8, iv y3), (9, .slice A23 x22.length cp24), (32, iv (y14.length : Int)), (33, iv x25), (37, .slice A23 x22.length cp24), (38, iv x25), (45, dynV88 y33), (46, .string y34), (47, .bool y35)]) ?_
     obtain ⟨hg36, h1⟩ := guardS h1
     obtain ⟨g37, hA38, hr39, hl40⟩ := ownS_get hI hg36.1 hg36.2
     refine oC (jY (Yl.indexSlice (d := 48) (T := 85) (cc := cp24) (k := .i64) (j := x25) (g := g37) (o := 0) (by kernel_rfl) Go.Proofs.Tryz.underlying85 ty88 hA38 hg36.1 hg36.2) hI ?_)
     refine oC (Does.storeElem (T := 88) (j := x25) (k := 0) (v := dynV88 y33) (vs := ([dynV88 y33] : LV)) y33 (by kernel_rfl) ty88 hA38 hI hg36.1 hg36.2 (dynC88 _) (by kernel_rfl) (by kernel_rfl) (dynO88 _) (by kernel_rfl) ?_)
     intro w hI
     refine OpsT.keep [2, 8, 9, 32, 33, 37, 38, 45, 46, 47] (S' := [(2, pb b1), (8, iv y3), (9, .slice A23 ((st x22 x25 y33).length) cp24), (32, iv (y14.length : Int)), (33, iv x25), (37, .slice A23 ((st x22 x25 y33).length) cp24), (38, iv x25), (45, dynV88 y33), (46, .string y34), (47, .bool y35)]) (by simp only [st_length]; kernel_rfl) ?_
     refine oP (r := []) [14, 15] (S' := [(2, pb b1), (6, .string y34), (7, .bool y35), (8, iv y3), (9, .slice A23 ((st x22 x25 y33).length) cp24), (32, iv (y14.length : Int)), (33, iv x25)]) ?_
     refine oD (qT (cQ (cR [0, 1] ?_)))
     refine oP (r := []) [0, 1] (S' := [(2, pb b1), (6, .string y34), (8, iv y3), (9, .slice A23 ((st x22 x25 y33).length) cp24), (32, iv (y14.length : Int)), (33, iv x25), (50, .bool (!y35))]) ?_
     refine oD (qT ?_)
     by_cases hb41 : (!y35) = true
     ·
      rw [if_pos hb41] at h1
      refine cY (b := !y35) hb41 ?_
      refine cQ (cR [0, 1, 2, 3] ?_)
      refine oP (r := [1, 2, 3]) [0] (S' := [(2, pb b1), (51, .agg (c_ApiEvent (ApiEvent.mk 0 0 q8e 0 0 q8z)).toArray)]) ?_
      have hI := hI.mono (pick2 _ _ _)
      refine oC (dS (T := 50) (b := b1) (o := 0) (v := .agg (c_ApiEvent (ApiEvent.mk 0 0 q8e 0 0 q8z)).toArray) (l := c_ApiEvent (ApiEvent.mk 0 0 q8e 0 0 q8z)) (vs := c_ApiEvent (ApiEvent.mk 0 0 q8e 0 0 q8z)) (L' := c_ApiEvent (ApiEvent.mk 0 0 q8e 0 0 q8z)) (by kernel_rfl) ty50 hI (by kernel_rfl) (len_ApiEvent _ (by kernel_rfl)) (by rw [(len_ApiEvent _ (by kernel_rfl))]; kernel_rfl) (ones_app _ _ (by kernel_rfl) (ones_cA _)) (lset_all _ _ (Eq.trans (len_ApiEvent _ (by kernel_rfl)) (Eq.symm (len_ApiEvent _ (by kernel_rfl))))) ?_)
      intro w hI
      refine oP (r := []) [2, 3] (S' := [(2, pb b1), (3, .string q8e), (4, .bool false)]) ?_
      refine oD (qT (jE (jQ (jR (jR (jQ (jR (jR ?_))))))))
      have hL42 := (ldBN ty50 (l := c_ApiEvent (ApiEvent.mk 0 0 q8e 0 0 q8z)) (o := 0) (cs := c_ApiEvent (ApiEvent.mk 0 0 q8e 0 0 q8z)) (ent_refl _) (len_ApiEvent _ (by kernel_rfl)) (whole _ _ (len_ApiEvent _ (by kernel_rfl)))) w hI
      have hI := hI.drop
      have hI := hI.drop
      have e := someS h1
      subst e
      try dsimp only at h0
      have e := someS h0
      subst e
      refine qK [2, 3, 4] (S' := [(2, pb b1), (3, .string q8e), (4, .bool false)]) ?_
      exact post_ret (v := .tuple #[.agg (c_ApiEvent (ApiEvent.mk 0 0 q8e 0 0 q8z)).toArray, .string q8e, .bool false]) (fun a ha => jU (vs := [.agg (c_ApiEvent (ApiEvent.mk 0 0 q8e 0 0 q8z)).toArray, .string q8e, .bool false]) (.cell (t := 2) (T := 50) (ad := ⟨b1, 0, none⟩) (by kernel_rfl) hL42 (.tmp (t := 3) (by kernel_rfl) (.tmp (t := 4) (by kernel_rfl) .nil))) ha (by kernel_rfl)) ⟨rfl, (by kernel_rfl), hI⟩
     ·
      rw [if_neg hb41] at h1
      refine cN (b := !y35) (by simpa using hb41) ?_
      refine jS (jN (qT (cR [0, 1] ?_)))
      refine oP (r := []) [0, 1] (S' := [(2, pb b1), (6, .string y34), (8, iv y3), (9, .slice A23 ((st x22 x25 y33).length) cp24), (32, iv (y14.length : Int)), (33, iv (wi64 (x25 + 1)))]) ?_
      refine oD ?_
      exact jT fun a ha => ⟨k, Nat.lt_succ_self k, y34, st x22 x25 y33, wi64 (x25 + 1), A23, cp24, h1, ha.keep [2, 6, 8, 9, 32, 33] (by kernel_rfl), hI⟩
    ·
     rw [if_neg hb26] at h1
     refine cN (b := decide (x25 < (y14.length : Int))) (by simpa using hb26) ?_
     refine jZ ?_
     refine jX (jX ?_)
     refine Qn.block ?_
     have e := someS h1
     subst e
     exact jT fun a ha => ⟨x21, x22, A23, cp24, rfl, ha.keep [2, 6, 8, 9] (by kernel_rfl), hI⟩
   ·
    rintro a w ⟨x17, x18, A19, cp20, rfl, ha, hI⟩
    try dsimp only at h0
    refine Qn.of ?_ ha
    refine qT (cQ (cR [0, 1, 2, 3, 4] ?_))
    refine oP (r := [2, 3, 4]) [0, 1] (S' := [(2, pb b1), (6, .string x17), (53, iv y3), (54, .slice A19 x18.length cp20)]) ?_
    obtain ⟨Z43, hle44, hr45, hI⟩ := ownS_freeze hI
    obtain ⟨y47, hc46, h0⟩ := bindS h0
    try dsimp only at h0
    refine oC (jC (d := some 55) (n := 72) (vs := [iv y3, .slice A19 x18.length cp20]) (by kernel_rfl) en72 (c72 w0 w _ _ hI (hT.mono hle44) y3 A19 cp20 x18 hr45 _ hc46) ?_)
    rintro e w ⟨rfl, hl48, hI⟩
    refine ⟨_, rfl, ?_⟩
    refine oC (jA (d := 11) (T := 50) (c_ApiEvent (ApiEvent.mk 0 0 q8e 0 0 q8z)) (by kernel_rfl) ty50 hI (by kernel_rfl) ?_)
    intro b49 w hI
    refine oC (dS (T := 50) (b := b49) (o := 0) (v := .agg (c_ApiEvent y47).toArray) (l := c_ApiEvent (ApiEvent.mk 0 0 q8e 0 0 q8z)) (vs := c_ApiEvent y47) (L' := c_ApiEvent y47) (by kernel_rfl) ty50 hI (by kernel_rfl) (len_ApiEvent _ hl48) (by rw [(len_ApiEvent _ (by kernel_rfl))]; kernel_rfl) (ones_app _ _ (by kernel_rfl) (ones_cA _)) (lset_all _ _ (Eq.trans (len_ApiEvent _ hl48) (Eq.symm (len_ApiEvent _ (by kernel_rfl))))) ?_)
    intro w hI
    refine oD (qT (cQ (cQ (cR [0, 1, 2] ?_))))
    refine oC (jY (jL (d := 56) (T := 50) (v := .agg (c_ApiEvent y47).toArray) (by kernel_rfl) (ldBN ty50 (l := c_ApiEvent y47) (o := 0) (cs := c_ApiEvent y47) (ent_refl _) (len_ApiEvent _ hl48) (whole _ _ (len_ApiEvent _ hl48)))) hI ?_)
    obtain ⟨y51, hc50, h0⟩ := bindS h0
    try dsimp only at h0
    refine oC (jC (d := some 57) (n := 51) (vs := [.agg (c_ApiEvent y47).toArray]) (by kernel_rfl) en51 (c51 w0 w _ _ hI (hT.mono hle44) y47 hl48 _ hc50) ?_)
    rintro e w ⟨rfl, hI⟩
    refine ⟨_, rfl, ?_⟩
    refine oP (r := []) [2] (S' := [(2, pb b1), (6, .string x17), (11, pb b49), (58, .bool (!y51))]) ?_
    refine oD (qT ?_)
    by_cases hb52 : (!y51) = true
    ·
     rw [if_pos hb52] at h0
     refine cY (b := !y51) hb52 ?_
     refine cQ (cR [0, 1, 2, 3] ?_)
     refine oP (r := [1, 2, 3]) [0] (S' := [(2, pb b1), (59, .agg (c_ApiEvent (ApiEvent.mk 0 0 q8e 0 0 q8z)).toArray)]) ?_
     have hI := hI.mono (pick2 _ _ _)
     refine oC (dS (T := 50) (b := b1) (o := 0) (v := .agg (c_ApiEvent (ApiEvent.mk 0 0 q8e 0 0 q8z)).toArray) (l := c_ApiEvent (ApiEvent.mk 0 0 q8e 0 0 q8z)) (vs := c_ApiEvent (ApiEvent.mk 0 0 q8e 0 0 q8z)) (L' := c_ApiEvent (ApiEvent.mk 0 0 q8e 0 0 q8z)) (by kernel_rfl) ty50 hI (by kernel_rfl) (len_ApiEvent _ (by kernel_rfl)) (by rw [(len_ApiEvent _ (by kernel_rfl))]; kernel_rfl) (ones_app _ _ (by kernel_rfl) (ones_cA _)) (lset_all _ _ (Eq.trans (len_ApiEvent _ (by kernel_rfl)) (Eq.symm (len_ApiEvent _ (by kernel_rfl))))) ?_)
     intro w hI
     refine oP (r := []) [2, 3] (S' := [(2, pb b1), (3, .string q8e), (4, .bool false)]) ?_
     refine oD (qT (jE (jR ?_)))
     have hL53 := (ldBN ty50 (l := c_ApiEvent (ApiEvent.mk 0 0 q8e 0 0 q8z)) (o := 0) (cs := c_ApiEvent (ApiEvent.mk 0 0 q8e 0 0 q8z)) (ent_refl _) (len_ApiEvent _ (by kernel_rfl)) (whole _ _ (len_ApiEvent _ (by kernel_rfl)))) w hI
     have hI := hI.drop
     have hI := hI.drop
     have e := someS h0
     subst e
     refine qK [2, 3, 4] (S' := [(2, pb b1), (3, .string q8e), (4, .bool false)]) ?_
     exact post_ret (v := .tuple #[.agg (c_ApiEvent (ApiEvent.mk 0 0 q8e 0 0 q8z)).toArray, .string q8e, .bool false]) (fun a ha => jU (vs := [.agg (c_ApiEvent (ApiEvent.mk 0 0 q8e 0 0 q8z)).toArray, .string q8e, .bool false]) (.cell (t := 2) (T := 50) (ad := ⟨b1, 0, none⟩) (by kernel_rfl) hL53 (.tmp (t := 3) (by kernel_rfl) (.tmp (t := 4) (by kernel_rfl) .nil))) ha (by kernel_rfl)) ⟨rfl, (by kernel_rfl), hI.weaken hle44⟩
    ·
     rw [if_neg hb52] at h0
     refine cN (b := !y51) (by simpa using hb52) ?_
     refine jS (qT (cQ (cR [0, 1, 2, 3, 4] ?_)))
     refine oC (jY (jL (d := 60) (T := 50) (v := .agg (c_ApiEvent y47).toArray) (by kernel_rfl) (ldBN ty50 (l := c_ApiEvent y47) (o := 0) (cs := c_ApiEvent y47) (ent_refl _) (len_ApiEvent _ hl48) (whole _ _ (len_ApiEvent _ hl48)))) hI ?_)
     refine oP (r := [2, 3, 4]) [1] (S' := [(2, pb b1), (60, .agg (c_ApiEvent y47).toArray), (61, .string x17)]) ?_
     have hI := hI.mono (pick2 _ _ _)
     refine oC (dS (T := 50) (b := b1) (o := 0) (v := .agg (c_ApiEvent y47).toArray) (l := c_ApiEvent (ApiEvent.mk 0 0 q8e 0 0 q8z)) (vs := c_ApiEvent y47) (L' := c_ApiEvent y47) (by kernel_rfl) ty50 hI (by kernel_rfl) (len_ApiEvent _ hl48) (by rw [(len_ApiEvent _ (by kernel_rfl))]; kernel_rfl) (ones_app _ _ (by kernel_rfl) (ones_cA _)) (lset_all _ _ (Eq.trans (len_ApiEvent _ hl48) (Eq.symm (len_ApiEvent _ (by kernel_rfl))))) ?_)
     intro w hI
     refine oP (r := []) [3, 4] (S' := [(2, pb b1), (3, .string x17), (4, .bool true)]) ?_
     refine oD (qT (jE ?_))
     have hL54 := (ldBN ty50 (l := c_ApiEvent y47) (o := 0) (cs := c_ApiEvent y47) (ent_refl _) (len_ApiEvent _ hl48) (whole _ _ (len_ApiEvent _ hl48))) w hI
     have hI := hI.drop
     have hI := hI.drop
     have e := someS h0
     subst e
     refine qK [2, 3, 4] (S' := [(2, pb b1), (3, .string x17), (4, .bool true)]) ?_
     exact post_ret (v := .tuple #[.agg (c_ApiEvent y47).toArray, .string x17, .bool true]) (fun a ha => jU (vs := [.agg (c_ApiEvent y47).toArray, .string x17, .bool true]) (.cell (t := 2) (T := 50) (ad := ⟨b1, 0, none⟩) (by kernel_rfl) hL54 (.tmp (t := 3) (by kernel_rfl) (.tmp (t := 4) (by kernel_rfl) .nil))) ha (by kernel_rfl)) ⟨rfl, hl48, hI.weaken hle44⟩
/-- (*cenotaph/bundle.reader).events -/
theorem c41 (w0 w : World) (Z : Hp) (A : HP)  (hT : Tabs Z) (b_a0 : Nat) (ud : Int) (ue : (List Int)) (ubb : ue.length = 32) (ua : Option Addr) (uj : Nat) (uc : (List ApiEvent)) (ui : ByteArray) (uh : Int) (hI : Inv w0 Z w (star (pt b_a0 (.cells (((([iv ud] : LV) ++ (q8c ue) ++ ([.slice ua uc.length uj] : LV)) ++ ([.string ui, iv uh] : LV))).toArray 69 (0, 0))) (star (ownS 50 c_ApiEvent 37 ua uj uc) A))) (r : (Bool × Int × (List Int) × (List ApiEvent) × ByteArray × Int)) (h0 : bundle_reader_events ud ue uc ui uh = some r) :
  Calls prog 41 #[pb b_a0] w (fun e w' => ∃ (A1 : Option Addr) (c1 : Nat), e = .returned (.bool r.1) ∧ r.2.2.1.length = 32 ∧ Inv w0 Z w' (star (pt b_a0 (.cells (((([iv r.2.1] : LV) ++ (q8c r.2.2.1) ++ ([.slice A1 r.2.2.2.1.length c1] : LV)) ++ ([.string r.2.2.2.2.1, iv r.2.2.2.2.2] : LV))).toArray 69 (0, 0))) (star (ownS 50 c_ApiEvent 37 A1 c1 r.2.2.2.1) A))) := by
 have e4 := calls_intro (R := (fun e w' => ∃ (A1 : Option Addr) (c1 : Nat), e = .returned (.bool r.1) ∧ r.2.2.1.length = 32 ∧ Inv w0 Z w' (star (pt b_a0 (.cells (((([iv r.2.1] : LV) ++ (q8c r.2.2.1) ++ ([.slice A1 r.2.2.2.1.length c1] : LV)) ++ ([.string r.2.2.2.2.1, iv r.2.2.2.2.2] : LV))).toArray 69 (0, 0))) (star (ownS 50 c_ApiEvent 37 A1 c1 r.2.2.2.1) A)))) (w := w) (args := [pb b_a0]) (fn := Go.Proofs.Tryz.f41) 62 Go.Proofs.Tryz.func41 (by rfl) Go.Proofs.Tryz.ntmps41 (by kernel_rfl)
 refine e4 ?_
 clear e4
 unfold bundle_reader_events at h0
 refine cQ (cR [0] ?_)
 refine oP (r := []) [0] (S' := [(0, pb b_a0)]) ?_
 refine oD (qT (cQ (cQ (cR [0, 1, 2, 3, 4] ?_))))
 refine oP (r := [3, 4]) [0, 1, 2] (S' := [(0, pb b_a0), (11, .pointer (some ⟨b_a0, 35, none⟩))]) ?_
 refine oC (jY (jL (d := 12) (T := 3) (v := iv uh) (by kernel_rfl) (ldB ty3 (l := ((([iv ud] : LV) ++ (q8c ue) ++ ([.slice ua uc.length uj] : LV)) ++ ([.string ui, iv uh] : LV))) (o := 35) (v := iv uh) (ent_refl _) (seg_get [([iv ud] : LV), cA (Value.int .u8) ue, ([.slice ua uc.length uj] : LV), ([.string ui] : LV), ([iv uh] : LV)] 4 (by simp [cA_length, ubb]) (by simp [cA_length, ubb]) rfl))) hI ?_)
 refine oP (r := []) [4] (S' := [(0, pb b_a0), (12, iv uh), (13, iv 0)]) ?_
 refine oD (qT ?_)
 obtain ⟨r1, h1, h0⟩ := bindS h0
 refine CodT.meet1 (fun a w => ∃ (x1 : Int) (x2 : (List Int)) (x4 : (List ApiEvent)) (x7 : ByteArray) (x8 : Int) (A5 : Option Addr) (cp6 : Nat), .inr (x1, x2, x4, x7, x8) = r1 ∧ Fr 62 [(0, pb b_a0)] a ∧ Inv w0 Z w (star (ownS 50 c_ApiEvent 37 A5 cp6 x4) (star (pt b_a0 (.cells (((([iv x1] : LV) ++ (q8c x2) ++ ([.slice A5 x4.length cp6] : LV)) ++ ([.string x7, iv x8] : LV))).toArray 69 (0, 0))) A)) ∧ x2.length = 32) ?_ ?_
 ·
  refine jB ?_
  have hI := hI.mono (pick2 _ _ _)
  refine (fun a ha => wp_loopN (fun k a w => ∃ (x9 : Int) (x10 : Int) (x11 : (List Int)) (x13 : (List ApiEvent)) (x16 : ByteArray) (x17 : Int) (A14 : Option Addr) (cp15 : Nat), bundle_reader_events.l0 uh k x9 x10 x11 x13 x16 x17 = some r1 ∧ Fr 62 [(0, pb b_a0), (12, iv uh), (13, iv x9)] a ∧ Inv w0 Z w (star (ownS 50 c_ApiEvent 37 A14 cp15 x13) (star (pt b_a0 (.cells (((([iv x10] : LV) ++ (q8c x11) ++ ([.slice A14 x13.length cp15] : LV)) ++ ([.string x16, iv x17] : LV))).toArray 69 (0, 0))) A)) ∧ x11.length = 32) ?_ FU a w ⟨0, ud, ue, uc, ui, uh, ua, uj, h1, ha.keep [0, 12, 13] (by kernel_rfl), hI, ubb⟩)
  clear h1 hI
  rintro k a w ⟨x9, x10, x11, x13, x16, x17, A14, cp15, h1, ha, hI, hl12⟩
  rcases k with _ | k
  ·
   cases h1
  simp only [bundle_reader_events.l0] at h1
  refine CodT.of ?_ ha
  refine cQ (cR [0] ?_)
  refine oP (r := []) [0] (S' := [(0, pb b_a0), (12, iv uh), (13, iv x9), (14, .bool (decide (x9 < uh)))]) ?_
  refine oD (qT (cQ ?_))
  by_cases hb18 : (decide (x9 < uh)) = true
  ·
   rw [if_pos hb18] at h1
   refine cY (b := decide (x9 < uh)) hb18 ?_
   refine jS (qT (cQ (jB (cQ (cR [0, 1, 2, 3, 4, 5, 6, 7, 8, 9, 10, 11] ?_)))))
   refine oP (r := [3, 4, 5, 6, 7, 8, 9, 10, 11]) [0, 1, 2] (S' := [(0, pb b_a0), (12, iv uh), (13, iv x9), (18, .pointer (some ⟨b_a0, 34, none⟩))]) ?_
   refine oC (jY (jL (d := 19) (T := 9) (v := .string x16) (by kernel_rfl) (ldB ty9 (l := ((([iv x10] : LV) ++ (q8c x11) ++ ([.slice A14 x13.length cp15] : LV)) ++ ([.string x16, iv x17] : LV))) (o := 34) (v := .string x16) (pick2 _ _ _) (seg_get [([iv x10] : LV), cA (Value.int .u8) x11, ([.slice A14 x13.length cp15] : LV), ([.string x16] : LV), ([iv x17] : LV)] 3 (by simp [cA_length, hl12]) (by simp [cA_length, hl12]) rfl))) hI ?_)
   obtain ⟨⟨y20, y21, y22⟩, hc19, h1⟩ := bindS h1
   try dsimp only at h1
   refine oC (jC (d := some 20) (n := 63) (vs := [.string x16, iv 400]) (by kernel_rfl) en63 (c63 w0 w _ _ hI hT x16 400 _ hc19) ?_)
   rintro e w ⟨rfl, hI⟩
   refine ⟨_, rfl, ?_⟩
   refine oP (r := []) [5, 6, 7, 8, 9, 10, 11] (S' := [(0, pb b_a0), (3, .string y20), (4, .string y21), (5, .bool y22), (12, iv uh), (13, iv x9)]) ?_
   refine oD (qT (cQ (cR [0, 1, 2, 3, 4, 5, 6, 7, 8, 9] ?_)))
   refine oP (r := [1, 2, 3, 4, 5, 6, 7, 8, 9]) [0] (S' := [(0, pb b_a0), (4, .string y21), (5, .bool y22), (12, iv uh), (13, iv x9), (25, .string y20)]) ?_
   obtain ⟨⟨y24, y26, y27⟩, hc23, h1⟩ := bindS h1
   try dsimp only at h1
   refine oC (jC (d := some 26) (n := 64) (vs := [.string y20]) (by kernel_rfl) en64 (c64 w0 w _ _ hI hT y20 _ hc23) ?_)
   rintro e w ⟨rfl, hl25, hI⟩
   refine ⟨_, rfl, ?_⟩
   refine oP (r := [6, 7, 8, 9]) [2, 3, 4, 5] (S' := [(0, pb b_a0), (4, .string y21), (5, .bool y22), (12, iv uh), (13, iv x9), (27, .agg (c_ApiEvent y24).toArray), (28, .string y26), (29, .bool y27)]) ?_
   refine oC (jA (d := 6) (T := 50) (c_ApiEvent (ApiEvent.mk 0 0 q8e 0 0 q8z)) (by kernel_rfl) ty50 hI (by kernel_rfl) ?_)
   intro b28 w hI
   refine oC (dS (T := 50) (b := b28) (o := 0) (v := .agg (c_ApiEvent y24).toArray) (l := c_ApiEvent (ApiEvent.mk 0 0 q8e 0 0 q8z)) (vs := c_ApiEvent y24) (L' := c_ApiEvent y24) (by kernel_rfl) ty50 hI (by kernel_rfl) (len_ApiEvent _ hl25) (by rw [(len_ApiEvent _ (by kernel_rfl))]; kernel_rfl) (ones_app _ _ (by kernel_rfl) (ones_cA _)) (lset_all _ _ (Eq.trans (len_ApiEvent _ hl25) (Eq.symm (len_ApiEvent _ (by kernel_rfl))))) ?_)
   intro w hI
   refine oP (r := []) [8, 9] (S' := [(0, pb b_a0), (4, .string y21), (5, .bool y22), (6, pb b28), (7, .string y26), (8, .bool y27), (12, iv uh), (13, iv x9)]) ?_
   refine oD (qT (cQ ?_))
   obtain ⟨r2, h2, h1⟩ := bindS h1
   refine jM (fun a w => ∃ (x29 : Bool), x29 = r2 ∧ Fr 62 [(0, pb b_a0), (4, .string y21), (6, pb b28), (12, iv uh), (13, iv x9), (39, .bool x29)] a ∧ Inv w0 Z w (star (pt b28 (.cells (c_ApiEvent y24).toArray 50 (0, 0))) (star (pt b_a0 (.cells (((([iv x10] : LV) ++ (q8c x11) ++ ([.slice A14 x13.length cp15] : LV)) ++ ([.string x16, iv x17] : LV))).toArray 69 (0, 0))) (star (ownS 50 c_ApiEvent 37 A14 cp15 x13) A)))) ?_ ?_
   ·
    refine cR [0, 1, 2, 3, 4, 5, 6, 7, 8, 9] ?_
    refine oP (r := [3, 4, 5, 6, 7, 8, 9]) [0, 1, 2] (S' := [(0, pb b_a0), (4, .string y21), (6, pb b28), (7, .string y26), (8, .bool y27), (12, iv uh), (13, iv x9), (32, .bool (!y22))]) ?_
    by_cases hb30 : (!y22) = true
    ·
     rw [if_pos hb30] at h2
     refine OpsT.keep [0, 4, 6, 7, 8, 12, 13, 32] (S' := [(0, pb b_a0), (4, .string y21), (6, pb b28), (7, .string y26), (8, .bool y27), (12, iv uh), (13, iv x9), (32, .bool true)]) (by (try simp only [hb30]); kernel_rfl) ?_
     refine oP (r := []) [3, 4, 5, 6, 7, 8, 9] (S' := [(0, pb b_a0), (4, .string y21), (6, pb b28), (12, iv uh), (13, iv x9), (39, .bool true)]) ?_
     refine oD ?_
     have hI := hI.mono (pick2 _ _ _)
     have hI := hI.mono (pick3 _ _ _ _)
     have hI := hI.mono (pick3 _ _ _ _)
     have e := someS h2
     subst e
     exact jT fun a ha => ⟨true, rfl, ha.keep [0, 4, 6, 12, 13, 39] (by kernel_rfl), hI⟩
    ·
     rw [if_neg hb30] at h2
     have hb30 : (!y22) = false := by simpa using hb30
     refine OpsT.keep [0, 4, 6, 7, 8, 12, 13, 32] (S' := [(0, pb b_a0), (4, .string y21), (6, pb b28), (7, .string y26), (8, .bool y27), (12, iv uh), (13, iv x9), (32, .bool false)]) (by (try simp only [hb30]); kernel_rfl) ?_
     refine oP (r := [7, 8, 9]) [3, 4, 5, 6] (S' := [(0, pb b_a0), (4, .string y21), (6, pb b28), (7, .string y26), (12, iv uh), (13, iv x9), (36, .bool (!y27))]) ?_
     by_cases hb31 : (!y27) = true
     ·
      rw [if_pos hb31] at h2
      refine OpsT.keep [0, 4, 6, 7, 12, 13, 36] (S' := [(0, pb b_a0), (4, .string y21), (6, pb b28), (7, .string y26), (12, iv uh), (13, iv x9), (36, .bool true)]) (by (try simp only [hb31]); kernel_rfl) ?_
      refine oP (r := []) [7, 8, 9] (S' := [(0, pb b_a0), (4, .string y21), (6, pb b28), (12, iv uh), (13, iv x9), (39, .bool true)]) ?_
      refine oD ?_
      have hI := hI.mono (pick2 _ _ _)
      have hI := hI.mono (pick3 _ _ _ _)
      have hI := hI.mono (pick3 _ _ _ _)
      have e := someS h2
      subst e
      exact jT fun a ha => ⟨true, rfl, ha.keep [0, 4, 6, 12, 13, 39] (by kernel_rfl), hI⟩
     ·
      rw [if_neg hb31] at h2
      have hb31 : (!y27) = false := by simpa using hb31
      refine OpsT.keep [0, 4, 6, 7, 12, 13, 36] (S' := [(0, pb b_a0), (4, .string y21), (6, pb b28), (7, .string y26), (12, iv uh), (13, iv x9), (36, .bool false)]) (by (try simp only [hb31]); kernel_rfl) ?_
      refine oP (r := []) [7, 8, 9] (S' := [(0, pb b_a0), (4, .string y21), (6, pb b28), (12, iv uh), (13, iv x9), (39, .bool (!(seq y26 q8e)))]) ?_
      refine oD ?_
      have hI := hI.mono (pick2 _ _ _)
      have hI := hI.mono (pick3 _ _ _ _)
      have hI := hI.mono (pick3 _ _ _ _)
      have e := someS h2
      subst e
      exact jT fun a ha => ⟨!(seq y26 q8e), rfl, ha.keep [0, 4, 6, 12, 13, 39] (by kernel_rfl), hI⟩
   ·
    rintro a w ⟨x29, rfl, ha, hI⟩
    try dsimp only at h1
    refine CodT.of ?_ ha
    by_cases hb32 : x29 = true
    ·
     rw [if_pos hb32] at h1
     refine cY (b := x29) hb32 ?_
     refine cQ (cR [0] ?_)
     refine oP (r := []) [0] (S' := [(2, .bool false)]) ?_
     refine oD (qT (jE (jR (jQ (jR (jR (jQ (jR (jR ?_)))))))))
     have hI := hI.drop
     have e := someS h1
     subst e
     try dsimp only at h0
     have e := someS h0
     subst e
     refine qK [2] (S' := [(2, .bool false)]) ?_
     exact post_ret (v := .bool false) (fun a ha => jU (vs := [.bool false]) (.tmp (t := 2) (by kernel_rfl) .nil) ha (by kernel_rfl)) ⟨A14, cp15, rfl, hl12, hI⟩
    ·
     rw [if_neg hb32] at h1
     refine cN (b := x29) (by simpa using hb32) ?_
     refine jS (qT (cQ ?_))
     refine CodT.drawI (n := 13) [8, 12] (by kernel_rfl) (by kernel_rfl) hI ?_
     intro w hI
     refine gP 0 40 (pb b_a0) ?_
     refine gP 1 41 (pb b_a0) ?_
     refine gP 2 42 (pb b_a0) ?_
     refine gP 3 43 (pb b_a0) ?_
     refine gP 4 44 (.pointer (some ⟨b_a0, 33, none⟩)) ?_
     refine gR (i := 5) 2 (jL (d := 45) (T := 24) (v := .slice A14 x13.length cp15) (by kernel_rfl) (ldB ty24 (l := ((([iv x10] : LV) ++ (q8c x11) ++ ([.slice A14 x13.length cp15] : LV)) ++ ([.string x16, iv x17] : LV))) (o := 33) (v := .slice A14 x13.length cp15) (pick2 _ _ _) (seg_get [([iv x10] : LV), cA (Value.int .u8) x11, ([.slice A14 x13.length cp15] : LV), ([.string x16] : LV), ([iv x17] : LV)] 2 (by simp [cA_length, hl12]) (by simp [cA_length, hl12]) rfl))) hI ?_
     refine gR (i := 6) 3 (jL (d := 46) (T := 50) (v := .agg (c_ApiEvent y24).toArray) (by kernel_rfl) (ldBN ty50 (l := c_ApiEvent y24) (o := 0) (cs := c_ApiEvent y24) (ent_refl _) (len_ApiEvent _ hl25) (whole _ _ (len_ApiEvent _ hl25)))) hI ?_
     refine jO (i := 7) (by kernel_rfl) (Does.buildSliceAll (en := c_ApiEvent) (d := 47) (n := 1) (T := 24) (ps := [(0, .agg (c_ApiEvent y24).toArray)]) (fun y => .agg (c_ApiEvent y).toArray) (fun _ => rfl) ([y24] : List ApiEvent) (by kernel_rfl) rfl Go.Proofs.Tryz.underlying24 ty50 rfl (by kernel_rfl) (by kernel_rfl) (by decide +kernel) (List.forall_mem_cons.2 ⟨(len_ApiEvent _ hl25), (fun _ h => by cases h)⟩) hI ?_)
     intro b33 w hI
     have hC := hI
     have hC := hC.drop
     refine ⟨fun _ _ => hC, ?_⟩
     obtain ⟨hg34, h1⟩ := guardS h1
     have hI := hI.mono (pick4 _ _ _ _ _)
     refine jO (i := 8) (by kernel_rfl) (Does.append (d := 48) (t := 24) (tx := 24) (ty := 24) (ys := x13) (zs := ([y24] : List ApiEvent)) (x := .slice (some ⟨b33, 0, none⟩) (([y24] : List ApiEvent).length) 1) (by kernel_rfl) Go.Proofs.Tryz.underlying24 ty50 (by kernel_rfl) hI (src_own Go.Proofs.Tryz.underlying24 (hI.mono (pick2 _ _ _)) (one_flat _ one_ApiEvent)) (ownS_facts (hI.mono (pick2 _ _ _))).2.2 (by unfold LIM at hg34; omega) hg34 ?_)
     intro A35 cp36 w hI
     refine ⟨fun h => absurd h (by decide), ?_⟩
     refine gP 9 49 (pb b_a0) ?_
     refine gP 10 50 (pb b_a0) ?_
     refine gP 11 51 (.pointer (some ⟨b_a0, 33, none⟩)) ?_
     have hI := hI.mono (pick4 _ _ _ _ _)
     refine jO (i := 12) (by kernel_rfl) (dS (T := 24) (b := b_a0) (o := 33) (v := .slice A35 ((x13 ++ ([y24] : List ApiEvent)).length) cp36) (l := ((([iv x10] : LV) ++ (q8c x11) ++ ([.slice A14 x13.length cp15] : LV)) ++ ([.string x16, iv x17] : LV))) (vs := ([.slice A35 ((x13 ++ ([y24] : List ApiEvent)).length) cp36] : LV)) (L' := ((([iv x10] : LV) ++ (q8c x11) ++ ([.slice A35 ((x13 ++ ([y24] : List ApiEvent)).length) cp36] : LV)) ++ ([.string x16, iv x17] : LV))) (by kernel_rfl) ty24 hI (by kernel_rfl) (by kernel_rfl) (by rw [show List.length _ = 36 from by simp [cA_length, hl12]]; kernel_rfl) (by kernel_rfl) (seg_set [([iv x10] : LV), cA (Value.int .u8) x11, ([.slice A14 x13.length cp15] : LV), ([.string x16] : LV), ([iv x17] : LV)] 2 (by simp [cA_length, hl12]) (by simp [cA_length, hl12]) (by simp [cA_length, hl12]) (by simp [cA_length, hl12])) ?_)
     intro w hI
     refine ⟨fun h => absurd h (by decide), ?_⟩
     refine jD (by kernel_rfl) ?_
     refine qT (cR [0, 1, 2, 3, 4] ?_)
     refine oP (r := [4]) [0, 1, 2, 3] (S' := [(0, pb b_a0), (12, iv uh), (13, iv x9), (53, .string y21), (55, .pointer (some ⟨b_a0, 34, none⟩))]) ?_
     refine oC (dS (T := 9) (b := b_a0) (o := 34) (v := .string y21) (l := ((([iv x10] : LV) ++ (q8c x11) ++ ([.slice A35 ((x13 ++ ([y24] : List ApiEvent)).length) cp36] : LV)) ++ ([.string x16, iv x17] : LV))) (vs := ([.string y21] : LV)) (L' := ((([iv x10] : LV) ++ (q8c x11) ++ ([.slice A35 ((x13 ++ ([y24] : List ApiEvent)).length) cp36] : LV)) ++ ([.string y21, iv x17] : LV))) (by kernel_rfl) ty9 hI (by kernel_rfl) (by kernel_rfl) (by rw [show List.length _ = 36 from by simp [cA_length, hl12]]; kernel_rfl) (by kernel_rfl) (seg_set [([iv x10] : LV), cA (Value.int .u8) x11, ([.slice A35 ((x13 ++ ([y24] : List ApiEvent)).length) cp36] : LV), ([.string x16] : LV), ([iv x17] : LV)] 3 (by simp [cA_length, hl12]) (by simp [cA_length, hl12]) (by simp [cA_length, hl12]) (by simp [cA_length, hl12])) ?_)
     intro w hI
     refine oD (jN (qT (cR [0, 1] ?_)))
     refine oP (r := []) [0, 1] (S' := [(0, pb b_a0), (12, iv uh), (13, iv (wi64 (x9 + 1)))]) ?_
     refine oD ?_
     have hI := hI.mono (pick3 _ _ _ _)
     have hI := hI.drop
     have hI := hI.mono (pick3 _ _ _ _)
     have hI := hI.drop
     have hI := hI.mono (pick2 _ _ _)
     exact jT fun a ha => ⟨k, Nat.lt_succ_self k, wi64 (x9 + 1), x10, x11, x13 ++ ([y24] : List ApiEvent), y21, x17, A35, cp36, h1, ha.keep [0, 12, 13] (by kernel_rfl), hI, hl12⟩
  ·
   rw [if_neg hb18] at h1
   refine cN (b := decide (x9 < uh)) (by simpa using hb18) ?_
   refine jZ ?_
   refine jX (jX ?_)
   refine Qn.block ?_
   have e := someS h1
   subst e
   exact jT fun a ha => ⟨x10, x11, x13, x16, x17, A14, cp15, rfl, ha.keep [0] (by kernel_rfl), hI, hl12⟩
 ·
  rintro a w ⟨x1, x2, x4, x7, x8, A5, cp6, rfl, ha, hI, hl3⟩
  try dsimp only at h0
  refine Qn.of ?_ ha
  refine qT (cQ (cR [0, 1, 2, 3, 4, 5] ?_))
  refine oP (r := [3, 4, 5]) [0, 1, 2] (S' := [(59, .pointer (some ⟨b_a0, 34, none⟩))]) ?_
  refine oC (jY (jL (d := 60) (T := 9) (v := .string x7) (by kernel_rfl) (ldB ty9 (l := ((([iv x1] : LV) ++ (q8c x2) ++ ([.slice A5 x4.length cp6] : LV)) ++ ([.string x7, iv x8] : LV))) (o := 34) (v := .string x7) (pick2 _ _ _) (seg_get [([iv x1] : LV), cA (Value.int .u8) x2, ([.slice A5 x4.length cp6] : LV), ([.string x7] : LV), ([iv x8] : LV)] 3 (by simp [cA_length, hl3]) (by simp [cA_length, hl3]) rfl))) hI ?_)
  refine oP (r := []) [4, 5] (S' := [(2, .bool (seq x7 q8e))]) ?_
  refine oD (qT (jE ?_))
  have hI := hI.mono (pick2 _ _ _)
  have e := someS h0
  subst e
  refine qK [2] (S' := [(2, .bool (seq x7 q8e))]) ?_
  exact post_ret (v := .bool (seq x7 q8e)) (fun a ha => jU (vs := [.bool (seq x7 q8e)]) (.tmp (t := 2) (by kernel_rfl) .nil) ha (by kernel_rfl)) ⟨A5, cp6, rfl, hl3, hI⟩
/-- cenotaph/bundle.Get -/
theorem c16 (w0 w : World) (Z : Hp) (A : HP) (hI : Inv w0 Z w A) (hT : Tabs Z) (a0 : ByteArray) (r : (Int × (List Int) × (List ApiEvent) × Bool)) (h0 : bundle_Get a0 = some r) :
  Calls prog 16 #[.string a0] w (fun e w' => ∃ (A1 : Option Addr) (c1 : Nat), e = .returned (.tuple #[.agg ((([iv r.1] : LV) ++ (q8c r.2.1) ++ ([.slice A1 r.2.2.1.length c1] : LV))).toArray, .bool r.2.2.2]) ∧ r.2.1.length = 32 ∧ Inv w0 Z w' (star (ownS 50 c_ApiEvent 37 A1 c1 r.2.2.1) A)) := by
 have e4 := calls_intro (R := (fun e w' => ∃ (A1 : Option Addr) (c1 : Nat), e = .returned (.tuple #[.agg ((([iv r.1] : LV) ++ (q8c r.2.1) ++ ([.slice A1 r.2.2.1.length c1] : LV))).toArray, .bool r.2.2.2]) ∧ r.2.1.length = 32 ∧ Inv w0 Z w' (star (ownS 50 c_ApiEvent 37 A1 c1 r.2.2.1) A))) (w := w) (args := [.string a0]) (fn := Go.Proofs.Tryz.f16) 33 Go.Proofs.Tryz.func16 (by rfl) Go.Proofs.Tryz.ntmps16 (by kernel_rfl)
 refine e4 ?_
 clear e4
 unfold bundle_Get at h0
 refine cQ (cR [0, 1] ?_)
 refine oC (jA (d := 2) (T := 26) q8b (by kernel_rfl) ty26 hI (by kernel_rfl) ?_)
 intro b1 w hI
 refine oP (r := []) [1] (S' := [(0, .string a0), (2, pb b1)]) ?_
 refine oD (qT (cQ (cR [0, 1, 2, 3] ?_)))
 refine oP (r := [1, 2, 3]) [0] (S' := [(2, pb b1), (7, .string a0)]) ?_
 refine oC (jY (Yl.buildB (d := 8) (T := 69) (ps := [(1, .string a0)]) (cells := ((q8b ++ ([.string a0, iv 0] : LV))).toArray) (by kernel_rfl) ((built_all (places := [(0, 34), (34, 1), (35, 1)]) (lens := [34, 1, 1]) (zs := [q8b, ([.string q8e] : LV), ([iv 0] : LV)]) (fun _ => by kernel_rfl) (by kernel_rfl) [(1, .string a0, ([.string a0] : LV))] (List.forall_mem_cons.2 ⟨⟨rfl, rfl, rfl⟩, (fun _ h => by cases h)⟩)).trans (by first | rfl | simp))) hI ?_)
 refine oC (Does.boxL (d := 9) (T := 69) (v := .agg ((q8b ++ ([.string a0, iv 0] : LV))).toArray) ((q8b ++ ([.string a0, iv 0] : LV))) (by kernel_rfl) hI (by kernel_rfl) ?_)
 intro b2 w hI
 refine oP (r := []) [3] (S' := [(2, pb b1), (4, pb b2)]) ?_
 refine oD (qT (cQ (cQ (cR [0, 1, 2, 3, 4, 5, 6, 7, 8, 9, 10, 11] ?_))))
 refine oP (r := []) [0, 1, 2, 3, 4, 5, 6, 7, 8, 9, 10, 11] (S' := [(2, pb b1), (4, pb b2), (20, .agg (([.func (.func 37) #[pb b2] #[], .func (.func 38) #[pb b2] #[], .func (.func 39) #[pb b2] #[], .func (.func 40) #[pb b2] #[], .func (.func 41) #[pb b2] #[]] : LV)).toArray), (21, iv 0)]) ?_
 refine oD (qT ?_)
 obtain ⟨r1, h1, h0⟩ := bindS h0
 refine CodT.meet1 (fun a w => ∃ (x3 : Int) (x4 : (List Int)) (x6 : (List ApiEvent)) (x9 : ByteArray) (x10 : Int) (A7 : Option Addr) (cp8 : Nat), .inr (x3, x4, x6, x9, x10) = r1 ∧ Fr 33 [(2, pb b1), (4, pb b2)] a ∧ Inv w0 Z w (star (ownS 50 c_ApiEvent 37 A7 cp8 x6) (star (pt b2 (.cells (((([iv x3] : LV) ++ (q8c x4) ++ ([.slice A7 x6.length cp8] : LV)) ++ ([.string x9, iv x10] : LV))).toArray 69 (0, 0))) (star (pt b1 (.cells q8b.toArray 26 (0, 0))) A))) ∧ x4.length = 32) ?_ ?_
 ·
  refine jB ?_
  refine CodT.unroll 40 (rounds1 (m := 39) ?_)
  refine cQ (cR [0] ?_)
  refine oP (r := []) [0] (S' := [(2, pb b1), (4, pb b2), (20, .agg (([.func (.func 37) #[pb b2] #[], .func (.func 38) #[pb b2] #[], .func (.func 39) #[pb b2] #[], .func (.func 40) #[pb b2] #[], .func (.func 41) #[pb b2] #[]] : LV)).toArray), (21, iv 0), (22, .bool true)]) ?_
  refine oD (qT (cQ ?_))
  refine CodT.yes (by kernel_rfl) ?_
  refine jS (qT (cQ (jB (cQ (cR [0, 1] ?_)))))
  refine oC (jY (Yl.indexAgg (d := 23) (T := 70) (k := .i64) (j := 0) (l := ([.func (.func 37) #[pb b2] #[], .func (.func 38) #[pb b2] #[], .func (.func 39) #[pb b2] #[], .func (.func 40) #[pb b2] #[], .func (.func 41) #[pb b2] #[]] : LV)) (v := .func (.func 37) #[pb b2] #[]) (by kernel_rfl) Go.Proofs.Tryz.underlying70 ty27 (by decide) (by decide) (by kernel_rfl)) hI ?_)
  refine oP (r := []) [1] (S' := [(2, pb b1), (4, pb b2), (6, .func (.func 37) #[pb b2] #[]), (20, .agg (([.func (.func 37) #[pb b2] #[], .func (.func 38) #[pb b2] #[], .func (.func 39) #[pb b2] #[], .func (.func 40) #[pb b2] #[], .func (.func 41) #[pb b2] #[]] : LV)).toArray), (21, iv 0)]) ?_
  refine oD (qT (cQ (cR [0, 1, 2] ?_)))
  refine oP (r := [1, 2]) [0] (S' := [(2, pb b1), (4, pb b2), (20, .agg (([.func (.func 37) #[pb b2] #[], .func (.func 38) #[pb b2] #[], .func (.func 39) #[pb b2] #[], .func (.func 40) #[pb b2] #[], .func (.func 41) #[pb b2] #[]] : LV)).toArray), (21, iv 0), (24, .func (.func 37) #[pb b2] #[])]) ?_
  have hI := ownS_nil (α := ApiEvent) hI 50 c_ApiEvent 37
  have hI := hI.mono (pick2 _ _ _)
  obtain ⟨⟨y12, y13, y14, y16, y19, y20⟩, hc11, h1⟩ := bindS h1
  try dsimp only at h1
  refine oC (jC (d := some 25) (n := 37) (vs := [pb b2]) (by kernel_rfl) en37 (c37 w0 w _ _ hT b2 0 q8z (by kernel_rfl) none 0 ([] : List ApiEvent) a0 0 hI _ hc11) ?_)
  rintro e w ⟨A17, cp18, rfl, hl15, hI⟩
  refine ⟨_, rfl, ?_⟩
  refine oP (r := []) [2] (S' := [(2, pb b1), (4, pb b2), (20, .agg (([.func (.func 37) #[pb b2] #[], .func (.func 38) #[pb b2] #[], .func (.func 39) #[pb b2] #[], .func (.func 40) #[pb b2] #[], .func (.func 41) #[pb b2] #[]] : LV)).toArray), (21, iv 0), (26, .bool (!y12))]) ?_
  refine oD (qT ?_)
  by_cases hb21 : (!y12) = true
  ·
   rw [if_pos hb21] at h1
   refine cY (b := !y12) hb21 ?_
   refine cQ (cR [0, 1, 2] ?_)
   refine oP (r := [1, 2]) [0] (S' := [(2, pb b1), (27, .agg q8b.toArray)]) ?_
   have hI := hI.mono (pick3 _ _ _ _)
   refine oC (dS (T := 26) (b := b1) (o := 0) (v := .agg q8b.toArray) (l := q8b) (vs := q8b) (L' := q8b) (by kernel_rfl) ty26 hI (by kernel_rfl) (by simp [cA_length]) (by rw [show List.length _ = 34 from (by simp [cA_length])]; kernel_rfl) (ones_app _ _ (ones_app _ _ (by kernel_rfl) (ones_cA _)) (by kernel_rfl)) (lset_all _ _ (Eq.trans (show List.length _ = 34 from (by simp [cA_length])) (Eq.symm (show List.length _ = 34 from (by simp [cA_length]))))) ?_)
   intro w hI
   refine oP (r := []) [2] (S' := [(2, pb b1), (3, .bool false)]) ?_
   refine oD (qT (jE (jQ (jR (jR (jQ (jR (jR ?_))))))))
   have hL22 := (ldBN ty26 (l := q8b) (o := 0) (cs := q8b) (ent_refl _) (by simp [cA_length]) (whole _ _ (by simp [cA_length]))) w hI
   have hI := ownS_nil (α := ApiEvent) hI 50 c_ApiEvent 37
   have hI := hI.mono (pick2 _ _ _)
   have hI := hI.drop
   have hI := hI.mono (pick2 _ _ _)
   have hI := hI.drop
   have hI := hI.mono (pick2 _ _ _)
   have hI := hI.drop
   have e := someS h1
   subst e
   try dsimp only at h0
   have e := someS h0
   subst e
   refine qK [2, 3] (S' := [(2, pb b1), (3, .bool false)]) ?_
   exact post_ret (v := .tuple #[.agg q8b.toArray, .bool false]) (fun a ha => jU (vs := [.agg q8b.toArray, .bool false]) (.cell (t := 2) (T := 26) (ad := ⟨b1, 0, none⟩) (by kernel_rfl) hL22 (.tmp (t := 3) (by kernel_rfl) .nil)) ha (by kernel_rfl)) ⟨none, 0, rfl, (by kernel_rfl), hI⟩
  ·
   rw [if_neg hb21] at h1
   refine cN (b := !y12) (by simpa using hb21) ?_
   refine jS (jN (qT (cR [0, 1] ?_)))
   refine oP (r := []) [0, 1] (S' := [(2, pb b1), (4, pb b2), (20, .agg (([.func (.func 37) #[pb b2] #[], .func (.func 38) #[pb b2] #[], .func (.func 39) #[pb b2] #[], .func (.func 40) #[pb b2] #[], .func (.func 41) #[pb b2] #[]] : LV)).toArray), (21, iv 1)]) ?_
   refine oD ?_
   refine jT (rounds1 (m := 38) ?_)
   refine CodT.keep [2, 4, 20, 21] (S' := [(2, pb b1), (4, pb b2), (20, .agg (([.func (.func 37) #[pb b2] #[], .func (.func 38) #[pb b2] #[], .func (.func 39) #[pb b2] #[], .func (.func 40) #[pb b2] #[], .func (.func 41) #[pb b2] #[]] : LV)).toArray), (21, iv 1)]) (by kernel_rfl) ?_
   refine cQ (cR [0] ?_)
   refine oP (r := []) [0] (S' := [(2, pb b1), (4, pb b2), (20, .agg (([.func (.func 37) #[pb b2] #[], .func (.func 38) #[pb b2] #[], .func (.func 39) #[pb b2] #[], .func (.func 40) #[pb b2] #[], .func (.func 41) #[pb b2] #[]] : LV)).toArray), (21, iv 1), (22, .bool true)]) ?_
   refine oD (qT (cQ ?_))
   refine CodT.yes (by kernel_rfl) ?_
   refine jS (qT (cQ (jB (cQ (cR [0, 1] ?_)))))
   refine oC (jY (Yl.indexAgg (d := 23) (T := 70) (k := .i64) (j := 1) (l := ([.func (.func 37) #[pb b2] #[], .func (.func 38) #[pb b2] #[], .func (.func 39) #[pb b2] #[], .func (.func 40) #[pb b2] #[], .func (.func 41) #[pb b2] #[]] : LV)) (v := .func (.func 38) #[pb b2] #[]) (by kernel_rfl) Go.Proofs.Tryz.underlying70 ty27 (by decide) (by decide) (by kernel_rfl)) hI ?_)
   refine oP (r := []) [1] (S' := [(2, pb b1), (4, pb b2), (6, .func (.func 38) #[pb b2] #[]), (20, .agg (([.func (.func 37) #[pb b2] #[], .func (.func 38) #[pb b2] #[], .func (.func 39) #[pb b2] #[], .func (.func 40) #[pb b2] #[], .func (.func 41) #[pb b2] #[]] : LV)).toArray), (21, iv 1)]) ?_
   refine oD (qT (cQ (cR [0, 1, 2] ?_)))
   refine oP (r := [1, 2]) [0] (S' := [(2, pb b1), (4, pb b2), (20, .agg (([.func (.func 37) #[pb b2] #[], .func (.func 38) #[pb b2] #[], .func (.func 39) #[pb b2] #[], .func (.func 40) #[pb b2] #[], .func (.func 41) #[pb b2] #[]] : LV)).toArray), (21, iv 1), (24, .func (.func 38) #[pb b2] #[])]) ?_
   have hI := hI.mono (pick2 _ _ _)
   have hI := hI.mono (pick2 _ _ _)
   obtain ⟨⟨y24, y25, y26, y28, y31, y32⟩, hc23, h1⟩ := bindS h1
   try dsimp only at h1
   refine oC (jC (d := some 25) (n := 38) (vs := [pb b2]) (by kernel_rfl) en38 (c38 w0 w _ _ hT b2 y13 y14 hl15 A17 cp18 y16 y19 y20 hI _ hc23) ?_)
   rintro e w ⟨A29, cp30, rfl, hl27, hI⟩
   refine ⟨_, rfl, ?_⟩
   refine oP (r := []) [2] (S' := [(2, pb b1), (4, pb b2), (20, .agg (([.func (.func 37) #[pb b2] #[], .func (.func 38) #[pb b2] #[], .func (.func 39) #[pb b2] #[], .func (.func 40) #[pb b2] #[], .func (.func 41) #[pb b2] #[]] : LV)).toArray), (21, iv 1), (26, .bool (!y24))]) ?_
   refine oD (qT ?_)
   by_cases hb33 : (!y24) = true
   ·
    rw [if_pos hb33] at h1
    refine cY (b := !y24) hb33 ?_
    refine cQ (cR [0, 1, 2] ?_)
    refine oP (r := [1, 2]) [0] (S' := [(2, pb b1), (27, .agg q8b.toArray)]) ?_
    have hI := hI.mono (pick3 _ _ _ _)
    refine oC (dS (T := 26) (b := b1) (o := 0) (v := .agg q8b.toArray) (l := q8b) (vs := q8b) (L' := q8b) (by kernel_rfl) ty26 hI (by kernel_rfl) (by simp [cA_length]) (by rw [show List.length _ = 34 from (by simp [cA_length])]; kernel_rfl) (ones_app _ _ (ones_app _ _ (by kernel_rfl) (ones_cA _)) (by kernel_rfl)) (lset_all _ _ (Eq.trans (show List.length _ = 34 from (by simp [cA_length])) (Eq.symm (show List.length _ = 34 from (by simp [cA_length]))))) ?_)
    intro w hI
    refine oP (r := []) [2] (S' := [(2, pb b1), (3, .bool false)]) ?_
    refine oD (qT (jE (jQ (jR (jR (jQ (jR (jR ?_))))))))
    have hL34 := (ldBN ty26 (l := q8b) (o := 0) (cs := q8b) (ent_refl _) (by simp [cA_length]) (whole _ _ (by simp [cA_length]))) w hI
    have hI := ownS_nil (α := ApiEvent) hI 50 c_ApiEvent 37
    have hI := hI.mono (pick2 _ _ _)
    have hI := hI.drop
    have hI := hI.mono (pick2 _ _ _)
    have hI := hI.drop
    have hI := hI.mono (pick2 _ _ _)
    have hI := hI.drop
    have e := someS h1
    subst e
    try dsimp only at h0
    have e := someS h0
    subst e
    refine qK [2, 3] (S' := [(2, pb b1), (3, .bool false)]) ?_
    exact post_ret (v := .tuple #[.agg q8b.toArray, .bool false]) (fun a ha => jU (vs := [.agg q8b.toArray, .bool false]) (.cell (t := 2) (T := 26) (ad := ⟨b1, 0, none⟩) (by kernel_rfl) hL34 (.tmp (t := 3) (by kernel_rfl) .nil)) ha (by kernel_rfl)) ⟨none, 0, rfl, (by kernel_rfl), hI⟩
   ·
    rw [if_neg hb33] at h1
    refine cN (b := !y24) (by simpa using hb33) ?_
    refine jS (jN (qT (cR [0, 1] ?_)))
    refine oP (r := []) [0, 1] (S' := [(2, pb b1), (4, pb b2), (20, .agg (([.func (.func 37) #[pb b2] #[], .func (.func 38) #[pb b2] #[], .func (.func 39) #[pb b2] #[], .func (.func 40) #[pb b2] #[], .func (.func 41) #[pb b2] #[]] : LV)).toArray), (21, iv 2)]) ?_
    refine oD ?_
    refine jT (rounds1 (m := 37) ?_)
    refine CodT.keep [2, 4, 20, 21] (S' := [(2, pb b1), (4, pb b2), (20, .agg (([.func (.func 37) #[pb b2] #[], .func (.func 38) #[pb b2] #[], .func (.func 39) #[pb b2] #[], .func (.func 40) #[pb b2] #[], .func (.func 41) #[pb b2] #[]] : LV)).toArray), (21, iv 2)]) (by kernel_rfl) ?_
    refine cQ (cR [0] ?_)
    refine oP (r := []) [0] (S' := [(2, pb b1), (4, pb b2), (20, .agg (([.func (.func 37) #[pb b2] #[], .func (.func 38) #[pb b2] #[], .func (.func 39) #[pb b2] #[], .func (.func 40) #[pb b2] #[], .func (.func 41) #[pb b2] #[]] : LV)).toArray), (21, iv 2), (22, .bool true)]) ?_
    refine oD (qT (cQ ?_))
    refine CodT.yes (by kernel_rfl) ?_
    refine jS (qT (cQ (jB (cQ (cR [0, 1] ?_)))))
    refine oC (jY (Yl.indexAgg (d := 23) (T := 70) (k := .i64) (j := 2) (l := ([.func (.func 37) #[pb b2] #[], .func (.func 38) #[pb b2] #[], .func (.func 39) #[pb b2] #[], .func (.func 40) #[pb b2] #[], .func (.func 41) #[pb b2] #[]] : LV)) (v := .func (.func 39) #[pb b2] #[]) (by kernel_rfl) Go.Proofs.Tryz.underlying70 ty27 (by decide) (by decide) (by kernel_rfl)) hI ?_)
    refine oP (r := []) [1] (S' := [(2, pb b1), (4, pb b2), (6, .func (.func 39) #[pb b2] #[]), (20, .agg (([.func (.func 37) #[pb b2] #[], .func (.func 38) #[pb b2] #[], .func (.func 39) #[pb b2] #[], .func (.func 40) #[pb b2] #[], .func (.func 41) #[pb b2] #[]] : LV)).toArray), (21, iv 2)]) ?_
    refine oD (qT (cQ (cR [0, 1, 2] ?_)))
    refine oP (r := [1, 2]) [0] (S' := [(2, pb b1), (4, pb b2), (20, .agg (([.func (.func 37) #[pb b2] #[], .func (.func 38) #[pb b2] #[], .func (.func 39) #[pb b2] #[], .func (.func 40) #[pb b2] #[], .func (.func 41) #[pb b2] #[]] : LV)).toArray), (21, iv 2), (24, .func (.func 39) #[pb b2] #[])]) ?_
    have hI := hI.mono (pick2 _ _ _)
    have hI := hI.mono (pick2 _ _ _)
    obtain ⟨⟨y36, y37, y38, y40, y43, y44⟩, hc35, h1⟩ := bindS h1
    try dsimp only at h1
    refine oC (jC (d := some 25) (n := 39) (vs := [pb b2]) (by kernel_rfl) en39 (c39 w0 w _ _ hT b2 y25 y26 hl27 A29 cp30 y28 y31 y32 hI _ hc35) ?_)
    rintro e w ⟨A41, cp42, rfl, hl39, hI⟩
    refine ⟨_, rfl, ?_⟩
    refine oP (r := []) [2] (S' := [(2, pb b1), (4, pb b2), (20, .agg (([.func (.func 37) #[pb b2] #[], .func (.func 38) #[pb b2] #[], .func (.func 39) #[pb b2] #[], .func (.func 40) #[pb b2] #[], .func (.func 41) #[pb b2] #[]] : LV)).toArray), (21, iv 2), (26, .bool (!y36))]) ?_
    refine oD (qT ?_)
    by_cases hb45 : (!y36) = true
    ·
     rw [if_pos hb45] at h1
     refine cY (b := !y36) hb45 ?_
     refine cQ (cR [0, 1, 2] ?_)
     refine oP (r := [1, 2]) [0] (S' := [(2, pb b1), (27, .agg q8b.toArray)]) ?_
     have hI := hI.mono (pick3 _ _ _ _)
     refine oC (dS (T := 26) (b := b1) (o := 0) (v := .agg q8b.toArray) (l := q8b) (vs := q8b) (L' := q8b) (by kernel_rfl) ty26 hI (by kernel_rfl) (by simp [cA_length]) (by rw [show List.length _ = 34 from (by simp [cA_length])]; kernel_rfl) (ones_app _ _ (ones_app _ _ (by kernel_rfl) (ones_cA _)) (by kernel_rfl)) (lset_all _ _ (Eq.trans (show List.length _ = 34 from (by simp [cA_length])) (Eq.symm (show List.length _ = 34 from (by simp [cA_length]))))) ?_)
     intro w hI
     refine oP (r := []) [2] (S' := [(2, pb b1), (3, .bool false)]) ?_
     refine oD (qT (jE (jQ (jR (jR (jQ (jR (jR ?_))))))))
     have hL46 := (ldBN ty26 (l := q8b) (o := 0) (cs := q8b) (ent_refl _) (by simp [cA_length]) (whole _ _ (by simp [cA_length]))) w hI
     have hI := ownS_nil (α := ApiEvent) hI 50 c_ApiEvent 37
     have hI := hI.mono (pick2 _ _ _)
     have hI := hI.drop
     have hI := hI.mono (pick2 _ _ _)
     have hI := hI.drop
     have hI := hI.mono (pick2 _ _ _)
     have hI := hI.drop
     have e := someS h1
     subst e
     try dsimp only at h0
     have e := someS h0
     subst e
     refine qK [2, 3] (S' := [(2, pb b1), (3, .bool false)]) ?_
     exact post_ret (v := .tuple #[.agg q8b.toArray, .bool false]) (fun a ha => jU (vs := [.agg q8b.toArray, .bool false]) (.cell (t := 2) (T := 26) (ad := ⟨b1, 0, none⟩) (by kernel_rfl) hL46 (.tmp (t := 3) (by kernel_rfl) .nil)) ha (by kernel_rfl)) ⟨none, 0, rfl, (by kernel_rfl), hI⟩
    ·
     rw [if_neg hb45] at h1
     refine cN (b := !y36) (by simpa using hb45) ?_
     refine jS (jN (qT (cR [0, 1] ?_)))
     refine oP (r := []) [0, 1] (S' := [(2, pb b1), (4, pb b2), (20, .agg (([.func (.func 37) #[pb b2] #[], .func (.func 38) #[pb b2] #[], .func (.func 39) #[pb b2] #[], .func (.func 40) #[pb b2] #[], .func (.func 41) #[pb b2] #[]] : LV)).toArray), (21, iv 3)]) ?_
     refine oD ?_
     refine jT (rounds1 (m := 36) ?_)
     refine CodT.keep [2, 4, 20, 21] (S' := [(2, pb b1), (4, pb b2), (20, .agg (([.func (.func 37) #[pb b2] #[], .func (.func 38) #[pb b2] #[], .func (.func 39) #[pb b2] #[], .func (.func 40) #[pb b2] #[], .func (.func 41) #[pb b2] #[]] : LV)).toArray), (21, iv 3)]) (by kernel_rfl) ?_
     refine cQ (cR [0] ?_)
     refine oP (r := []) [0] (S' := [(2, pb b1), (4, pb b2), (20, .agg (([.func (.func 37) #[pb b2] #[], .func (.func 38) #[pb b2] #[], .func (.func 39) #[pb b2] #[], .func (.func 40) #[pb b2] #[], .func (.func 41) #[pb b2] #[]] : LV)).toArray), (21, iv 3), (22, .bool true)]) ?_
     refine oD (qT (cQ ?_))
     refine CodT.yes (by kernel_rfl) ?_
     refine jS (qT (cQ (jB (cQ (cR [0, 1] ?_)))))
     refine oC (jY (Yl.indexAgg (d := 23) (T := 70) (k := .i64) (j := 3) (l := ([.func (.func 37) #[pb b2] #[], .func (.func 38) #[pb b2] #[], .func (.func 39) #[pb b2] #[], .func (.func 40) #[pb b2] #[], .func (.func 41) #[pb b2] #[]] : LV)) (v := .func (.func 40) #[pb b2] #[]) (by kernel_rfl) Go.Proofs.Tryz.underlying70 ty27 (by decide) (by decide) (by kernel_rfl)) hI ?_)
     refine oP (r := []) [1] (S' := [(2, pb b1), (4, pb b2), (6, .func (.func 40) #[pb b2] #[]), (20, .agg (([.func (.func 37) #[pb b2] #[], .func (.func 38) #[pb b2] #[], .func (.func 39) #[pb b2] #[], .func (.func 40) #[pb b2] #[], .func (.func 41) #[pb b2] #[]] : LV)).toArray), (21, iv 3)]) ?_
     refine oD (qT (cQ (cR [0, 1, 2] ?_)))
     refine oP (r := [1, 2]) [0] (S' := [(2, pb b1), (4, pb b2), (20, .agg (([.func (.func 37) #[pb b2] #[], .func (.func 38) #[pb b2] #[], .func (.func 39) #[pb b2] #[], .func (.func 40) #[pb b2] #[], .func (.func 41) #[pb b2] #[]] : LV)).toArray), (21, iv 3), (24, .func (.func 40) #[pb b2] #[])]) ?_
     have hI := hI.mono (pick2 _ _ _)
     have hI := hI.mono (pick2 _ _ _)
     obtain ⟨⟨y48, y49, y50, y52, y55, y56⟩, hc47, h1⟩ := bindS h1
     try dsimp only at h1
     refine oC (jC (d := some 25) (n := 40) (vs := [pb b2]) (by kernel_rfl) en40 (c40 w0 w _ _ hT b2 y37 y38 hl39 A41 cp42 y40 y43 y44 hI _ hc47) ?_)
     rintro e w ⟨A53, cp54, rfl, hl51, hI⟩
     refine ⟨_, rfl, ?_⟩
     refine oP (r := []) [2] (S' := [(2, pb b1), (4, pb b2), (20, .agg (([.func (.func 37) #[pb b2] #[], .func (.func 38) #[pb b2] #[], .func (.func 39) #[pb b2] #[], .func (.func 40) #[pb b2] #[], .func (.func 41) #[pb b2] #[]] : LV)).toArray), (21, iv 3), (26, .bool (!y48))]) ?_
     refine oD (qT ?_)
     by_cases hb57 : (!y48) = true
     ·
      rw [if_pos hb57] at h1
      refine cY (b := !y48) hb57 ?_
      refine cQ (cR [0, 1, 2] ?_)
      refine oP (r := [1, 2]) [0] (S' := [(2, pb b1), (27, .agg q8b.toArray)]) ?_
      have hI := hI.mono (pick3 _ _ _ _)
      refine oC (dS (T := 26) (b := b1) (o := 0) (v := .agg q8b.toArray) (l := q8b) (vs := q8b) (L' := q8b) (by kernel_rfl) ty26 hI (by kernel_rfl) (by simp [cA_length]) (by rw [show List.length _ = 34 from (by simp [cA_length])]; kernel_rfl) (ones_app _ _ (ones_app _ _ (by kernel_rfl) (ones_cA _)) (by kernel_rfl)) (lset_all _ _ (Eq.trans (show List.length _ = 34 from (by simp [cA_length])) (Eq.symm (show List.length _ = 34 from (by simp [cA_length]))))) ?_)
      intro w hI
      refine oP (r := []) [2] (S' := [(2, pb b1), (3, .bool false)]) ?_
      refine oD (qT (jE (jQ (jR (jR (jQ (jR (jR ?_))))))))
      have hL58 := (ldBN ty26 (l := q8b) (o := 0) (cs := q8b) (ent_refl _) (by simp [cA_length]) (whole _ _ (by simp [cA_length]))) w hI
      have hI := ownS_nil (α := ApiEvent) hI 50 c_ApiEvent 37
      have hI := hI.mono (pick2 _ _ _)
      have hI := hI.drop
      have hI := hI.mono (pick2 _ _ _)
      have hI := hI.drop
      have hI := hI.mono (pick2 _ _ _)
      have hI := hI.drop
      have e := someS h1
      subst e
      try dsimp only at h0
      have e := someS h0
      subst e
      refine qK [2, 3] (S' := [(2, pb b1), (3, .bool false)]) ?_
      exact post_ret (v := .tuple #[.agg q8b.toArray, .bool false]) (fun a ha => jU (vs := [.agg q8b.toArray, .bool false]) (.cell (t := 2) (T := 26) (ad := ⟨b1, 0, none⟩) (by kernel_rfl) hL58 (.tmp (t := 3) (by kernel_rfl) .nil)) ha (by kernel_rfl)) ⟨none, 0, rfl, (by kernel_rfl), hI⟩
     ·
      rw [if_neg hb57] at h1
      refine cN (b := !y48) (by simpa using hb57) ?_
      refine jS (jN (qT (cR [0, 1] ?_)))
      refine oP (r := []) [0, 1] (S' := [(2, pb b1), (4, pb b2), (20, .agg (([.func (.func 37) #[pb b2] #[], .func (.func 38) #[pb b2] #[], .func (.func 39) #[pb b2] #[], .func (.func 40) #[pb b2] #[], .func (.func 41) #[pb b2] #[]] : LV)).toArray), (21, iv 4)]) ?_
      refine oD ?_
      refine jT (rounds1 (m := 35) ?_)
      refine CodT.keep [2, 4, 20, 21] (S' := [(2, pb b1), (4, pb b2), (20, .agg (([.func (.func 37) #[pb b2] #[], .func (.func 38) #[pb b2] #[], .func (.func 39) #[pb b2] #[], .func (.func 40) #[pb b2] #[], .func (.func 41) #[pb b2] #[]] : LV)).toArray), (21, iv 4)]) (by kernel_rfl) ?_
      refine cQ (cR [0] ?_)
      refine oP (r := []) [0] (S' := [(2, pb b1), (4, pb b2), (20, .agg (([.func (.func 37) #[pb b2] #[], .func (.func 38) #[pb b2] #[], .func (.func 39) #[pb b2] #[], .func (.func 40) #[pb b2] #[], .func (.func 41) #[pb b2] #[]] : LV)).toArray), (21, iv 4), (22, .bool true)]) ?_
      refine oD (qT (cQ ?_))
      refine CodT.yes (by kernel_rfl) ?_
      refine jS (qT (cQ (jB (cQ (cR [0, 1] ?_)))))
      refine oC (jY (Yl.indexAgg (d := 23) (T := 70) (k := .i64) (j := 4) (l := ([.func (.func 37) #[pb b2] #[], .func (.func 38) #[pb b2] #[], .func (.func 39) #[pb b2] #[], .func (.func 40) #[pb b2] #[], .func (.func 41) #[pb b2] #[]] : LV)) (v := .func (.func 41) #[pb b2] #[]) (by kernel_rfl) Go.Proofs.Tryz.underlying70 ty27 (by decide) (by decide) (by kernel_rfl)) hI ?_)
      refine oP (r := []) [1] (S' := [(2, pb b1), (4, pb b2), (6, .func (.func 41) #[pb b2] #[]), (20, .agg (([.func (.func 37) #[pb b2] #[], .func (.func 38) #[pb b2] #[], .func (.func 39) #[pb b2] #[], .func (.func 40) #[pb b2] #[], .func (.func 41) #[pb b2] #[]] : LV)).toArray), (21, iv 4)]) ?_
      refine oD (qT (cQ (cR [0, 1, 2] ?_)))
      refine oP (r := [1, 2]) [0] (S' := [(2, pb b1), (4, pb b2), (20, .agg (([.func (.func 37) #[pb b2] #[], .func (.func 38) #[pb b2] #[], .func (.func 39) #[pb b2] #[], .func (.func 40) #[pb b2] #[], .func (.func 41) #[pb b2] #[]] : LV)).toArray), (21, iv 4), (24, .func (.func 41) #[pb b2] #[])]) ?_
      have hI := hI.mono (pick2 _ _ _)
      have hI := hI.mono (pick2 _ _ _)
      obtain ⟨⟨y60, y61, y62, y64, y67, y68⟩, hc59, h1⟩ := bindS h1
      try dsimp only at h1
      refine oC (jC (d := some 25) (n := 41) (vs := [pb b2]) (by kernel_rfl) en41 (c41 w0 w _ _ hT b2 y49 y50 hl51 A53 cp54 y52 y55 y56 hI _ hc59) ?_)
      rintro e w ⟨A65, cp66, rfl, hl63, hI⟩
      refine ⟨_, rfl, ?_⟩
      refine oP (r := []) [2] (S' := [(2, pb b1), (4, pb b2), (20, .agg (([.func (.func 37) #[pb b2] #[], .func (.func 38) #[pb b2] #[], .func (.func 39) #[pb b2] #[], .func (.func 40) #[pb b2] #[], .func (.func 41) #[pb b2] #[]] : LV)).toArray), (21, iv 4), (26, .bool (!y60))]) ?_
      refine oD (qT ?_)
      by_cases hb69 : (!y60) = true
      ·
       rw [if_pos hb69] at h1
       refine cY (b := !y60) hb69 ?_
       refine cQ (cR [0, 1, 2] ?_)
       refine oP (r := [1, 2]) [0] (S' := [(2, pb b1), (27, .agg q8b.toArray)]) ?_
       have hI := hI.mono (pick3 _ _ _ _)
       refine oC (dS (T := 26) (b := b1) (o := 0) (v := .agg q8b.toArray) (l := q8b) (vs := q8b) (L' := q8b) (by kernel_rfl) ty26 hI (by kernel_rfl) (by simp [cA_length]) (by rw [show List.length _ = 34 from (by simp [cA_length])]; kernel_rfl) (ones_app _ _ (ones_app _ _ (by kernel_rfl) (ones_cA _)) (by kernel_rfl)) (lset_all _ _ (Eq.trans (show List.length _ = 34 from (by simp [cA_length])) (Eq.symm (show List.length _ = 34 from (by simp [cA_length]))))) ?_)
       intro w hI
       refine oP (r := []) [2] (S' := [(2, pb b1), (3, .bool false)]) ?_
       refine oD (qT (jE (jQ (jR (jR (jQ (jR (jR ?_))))))))
       have hL70 := (ldBN ty26 (l := q8b) (o := 0) (cs := q8b) (ent_refl _) (by simp [cA_length]) (whole _ _ (by simp [cA_length]))) w hI
       have hI := ownS_nil (α := ApiEvent) hI 50 c_ApiEvent 37
       have hI := hI.mono (pick2 _ _ _)
       have hI := hI.drop
       have hI := hI.mono (pick2 _ _ _)
       have hI := hI.drop
       have hI := hI.mono (pick2 _ _ _)
       have hI := hI.drop
       have e := someS h1
       subst e
       try dsimp only at h0
       have e := someS h0
       subst e
       refine qK [2, 3] (S' := [(2, pb b1), (3, .bool false)]) ?_
       exact post_ret (v := .tuple #[.agg q8b.toArray, .bool false]) (fun a ha => jU (vs := [.agg q8b.toArray, .bool false]) (.cell (t := 2) (T := 26) (ad := ⟨b1, 0, none⟩) (by kernel_rfl) hL70 (.tmp (t := 3) (by kernel_rfl) .nil)) ha (by kernel_rfl)) ⟨none, 0, rfl, (by kernel_rfl), hI⟩
      ·
       rw [if_neg hb69] at h1
       refine cN (b := !y60) (by simpa using hb69) ?_
       refine jS (jN (qT (cR [0, 1] ?_)))
       refine oP (r := []) [0, 1] (S' := [(2, pb b1), (4, pb b2), (20, .agg (([.func (.func 37) #[pb b2] #[], .func (.func 38) #[pb b2] #[], .func (.func 39) #[pb b2] #[], .func (.func 40) #[pb b2] #[], .func (.func 41) #[pb b2] #[]] : LV)).toArray), (21, iv 5)]) ?_
       refine oD ?_
       refine jT (rounds1 (m := 34) ?_)
       refine CodT.keep [2, 4, 20, 21] (S' := [(2, pb b1), (4, pb b2), (20, .agg (([.func (.func 37) #[pb b2] #[], .func (.func 38) #[pb b2] #[], .func (.func 39) #[pb b2] #[], .func (.func 40) #[pb b2] #[], .func (.func 41) #[pb b2] #[]] : LV)).toArray), (21, iv 5)]) (by kernel_rfl) ?_
       refine cQ (cR [0] ?_)
       refine oP (r := []) [0] (S' := [(2, pb b1), (4, pb b2), (20, .agg (([.func (.func 37) #[pb b2] #[], .func (.func 38) #[pb b2] #[], .func (.func 39) #[pb b2] #[], .func (.func 40) #[pb b2] #[], .func (.func 41) #[pb b2] #[]] : LV)).toArray), (21, iv 5), (22, .bool false)]) ?_
       refine oD (qT (cQ ?_))
       refine CodT.no (by kernel_rfl) ?_
       refine jZ ?_
       refine jX (jX ?_)
       refine Qn.block ?_
       have hI := hI.mono (pick3 _ _ _ _)
       have hI := hI.mono (pick2 _ _ _)
       have hI := hI.mono (pick3 _ _ _ _)
       have e := someS h1
       subst e
       exact jT fun a ha => ⟨y61, y62, y64, y67, y68, A65, cp66, rfl, ha.keep [2, 4] (by kernel_rfl), hI, hl63⟩
 ·
  rintro a w ⟨x3, x4, x6, x9, x10, A7, cp8, rfl, ha, hI, hl5⟩
  try dsimp only at h0
  refine Qn.of ?_ ha
  refine qT (cQ (cR [0, 1, 2, 3, 4, 5] ?_))
  refine oP (r := [3, 4, 5]) [0, 1, 2] (S' := [(2, pb b1), (31, pb b2)]) ?_
  refine oC (jY (jL (d := 32) (T := 26) (v := .agg ((([iv x3] : LV) ++ (q8c x4) ++ ([.slice A7 x6.length cp8] : LV))).toArray) (by kernel_rfl) (ldBN ty26 (l := ((([iv x3] : LV) ++ (q8c x4) ++ ([.slice A7 x6.length cp8] : LV)) ++ ([.string x9, iv x10] : LV))) (o := 0) (cs := (([iv x3] : LV) ++ (q8c x4) ++ ([.slice A7 x6.length cp8] : LV))) (pick2 _ _ _) (by simp [cA_length, hl5]) (seg_take [([iv x3] : LV), cA (Value.int .u8) x4, ([.slice A7 x6.length cp8] : LV), ([.string x9] : LV), ([iv x10] : LV)] 0 3 (by simp [cA_length, hl5]) (by simp [cA_length, hl5]) (by simp [cA_length, hl5]) (by simp [cA_length, hl5])))) hI ?_)
  have hI := hI.mono (pick3 _ _ _ _)
  refine oC (dS (T := 26) (b := b1) (o := 0) (v := .agg ((([iv x3] : LV) ++ (q8c x4) ++ ([.slice A7 x6.length cp8] : LV))).toArray) (l := q8b) (vs := (([iv x3] : LV) ++ (q8c x4) ++ ([.slice A7 x6.length cp8] : LV))) (L' := (([iv x3] : LV) ++ (q8c x4) ++ ([.slice A7 x6.length cp8] : LV))) (by kernel_rfl) ty26 hI (by kernel_rfl) (by simp [cA_length, hl5]) (by rw [show List.length _ = 34 from (by simp [cA_length])]; kernel_rfl) (ones_app _ _ (ones_app _ _ (by kernel_rfl) (ones_cA _)) (by kernel_rfl)) (lset_all _ _ (Eq.trans (show List.length _ = 34 from (by simp [cA_length, hl5])) (Eq.symm (show List.length _ = 34 from (by simp [cA_length]))))) ?_)
  intro w hI
  refine oP (r := []) [5] (S' := [(2, pb b1), (3, .bool true)]) ?_
  refine oD (qT (jE ?_))
  have hL71 := (ldBN ty26 (l := (([iv x3] : LV) ++ (q8c x4) ++ ([.slice A7 x6.length cp8] : LV))) (o := 0) (cs := (([iv x3] : LV) ++ (q8c x4) ++ ([.slice A7 x6.length cp8] : LV))) (ent_refl _) (by simp [cA_length, hl5]) (whole _ _ (by simp [cA_length, hl5]))) w hI
  have hI := hI.drop
  have hI := hI.mono (pick2 _ _ _)
  have hI := hI.drop
  have e := someS h0
  subst e
  refine qK [2, 3] (S' := [(2, pb b1), (3, .bool true)]) ?_
  exact post_ret (v := .tuple #[.agg ((([iv x3] : LV) ++ (q8c x4) ++ ([.slice A7 x6.length cp8] : LV))).toArray, .bool true]) (fun a ha => jU (vs := [.agg ((([iv x3] : LV) ++ (q8c x4) ++ ([.slice A7 x6.length cp8] : LV))).toArray, .bool true]) (.cell (t := 2) (T := 26) (ad := ⟨b1, 0, none⟩) (by kernel_rfl) hL71 (.tmp (t := 3) (by kernel_rfl) .nil)) ha (by kernel_rfl)) ⟨A7, cp8, rfl, hl5, hI⟩
/-- cenotaph/chain.Start -/
theorem c20 (w0 w : World) (Z : Hp) (A : HP) (hI : Inv w0 Z w A) (hT : Tabs Z)  (r : (List Int)) (h0 : chain_Start = some r) :
  Calls prog 20 #[] w (fun e w' => e = .returned (.agg (q8c r).toArray) ∧ r.length = 32 ∧ Inv w0 Z w' A) := by
 have e4 := calls_intro (R := (fun e w' => e = .returned (.agg (q8c r).toArray) ∧ r.length = 32 ∧ Inv w0 Z w' A)) (w := w) (args := []) (fn := Go.Proofs.Tryz.f20) 2 Go.Proofs.Tryz.func20 (by rfl) Go.Proofs.Tryz.ntmps20 (by kernel_rfl)
 refine e4 ?_
 clear e4
 unfold chain_Start at h0
 refine cQ (cR [0] ?_)
 refine oC (jA (d := 0) (T := 23) (q8c q8z) (by kernel_rfl) ty23 hI (by kernel_rfl) ?_)
 intro b1 w hI
 refine oD (qT (cQ (cR [0, 1] ?_)))
 obtain ⟨y3, hc2, h0⟩ := bindS h0
 try dsimp only at h0
 refine oC (jC (d := some 1) (n := 49) (vs := [.string (⟨#[99, 101, 110, 111, 116, 97, 112, 104]⟩ : ByteArray)]) (by kernel_rfl) en49 (c49 w0 w _ _ hI hT (⟨#[99, 101, 110, 111, 116, 97, 112, 104]⟩ : ByteArray) _ hc2) ?_)
 rintro e w ⟨rfl, hl4, hI⟩
 refine ⟨_, rfl, ?_⟩
 refine oC (jV (T := 23) (b := b1) (n := 32) (xs := q8z) (ys := y3) (by kernel_rfl) ty23 hI (fun _ => rfl) (by kernel_rfl) hl4 ?_)
 intro w hI
 refine oD (qT (jE ?_))
 have hL5 := (ldBN ty23 (l := cA (Value.int .u8) y3) (o := 0) (cs := cA (Value.int .u8) y3) (ent_refl _) ((cA_length _ _).trans hl4) (whole _ _ ((cA_length _ _).trans hl4))) w hI
 have hI := hI.drop
 have e := someS h0
 subst e
 refine qK [0] (S' := [(0, pb b1)]) ?_
 exact post_ret (v := .agg (q8c y3).toArray) (fun a ha => jU (vs := [.agg (q8c y3).toArray]) (.cell (t := 0) (T := 23) (ad := ⟨b1, 0, none⟩) (by kernel_rfl) hL5 .nil) ha (by kernel_rfl)) ⟨rfl, hl4, hI⟩
/-- internal/strconv.Itoa -/
theorem c56 (w0 w : World) (Z : Hp) (A : HP) (hI : Inv w0 Z w A) (hT : Tabs Z) (a0 : Int) (r : ByteArray) (h0 : itoaS a0 = some r) :
  Calls prog 56 #[iv a0] w (fun e w' => e = .returned (.string r) ∧ Inv w0 Z w' A) :=
 ito_call layI (by kernel_rfl) (by decide +kernel) hT.1 a0 hI r h0
/-- strconv.Itoa -/
theorem c32 (w0 w : World) (Z : Hp) (A : HP) (hI : Inv w0 Z w A) (hT : Tabs Z) (a0 : Int) (r : ByteArray) (h0 : strconv_Itoa a0 = some r) :
  Calls prog 32 #[iv a0] w (fun e w' => e = .returned (.string r) ∧ Inv w0 Z w' A) := by
 have e4 := calls_intro (R := (fun e w' => e = .returned (.string r) ∧ Inv w0 Z w' A)) (w := w) (args := [iv a0]) (fn := Go.Proofs.Tryz.f32) 5 Go.Proofs.Tryz.func32 (by rfl) Go.Proofs.Tryz.ntmps32 (by kernel_rfl)
 refine e4 ?_
 clear e4
 unfold strconv_Itoa at h0
 refine cQ (cR [0] ?_)
 refine oP (r := []) [0] (S' := [(0, iv a0)]) ?_
 refine oD (qT (cQ (cR [0, 1, 2] ?_)))
 refine oP (r := [1, 2]) [0] (S' := [(3, iv a0)]) ?_
 obtain ⟨y2, hc1, h0⟩ := bindS h0
 try dsimp only at h0
 refine oC (jC (d := some 4) (n := 56) (vs := [iv a0]) (by kernel_rfl) en56 (c56 w0 w _ _ hI hT a0 _ hc1) ?_)
 rintro e w ⟨rfl, hI⟩
 refine ⟨_, rfl, ?_⟩
 refine oP (r := []) [2] (S' := [(2, .string y2)]) ?_
 refine oD (qT (jE ?_))
 have e := someS h0
 subst e
 refine qK [2] (S' := [(2, .string y2)]) ?_
 exact post_ret (v := .string y2) (fun a ha => jU (vs := [.string y2]) (.tmp (t := 2) (by kernel_rfl) .nil) ha (by kernel_rfl)) ⟨rfl, hI⟩
/-- (*strings.Builder).WriteByte -/
theorem c138 (w0 w : World) (Z : Hp) (A : HP)  (hT : Tabs Z) (b_a0 : Nat) (uf : Bool) (ub : Option Addr) (uba : Nat) (ug : (List Int)) (a1 : Int) (hI : Inv w0 Z w (star (pt b_a0 (.cells ([selfP b_a0 uf, .slice ub ug.length uba] : LV).toArray 55 (0, 0))) (star (ownS 5 (cI .u8) 1 ub uba ug) A))) (r : (Dyn57 × Bool × (List Int))) (h0 : strings_Builder_WriteByte uf ug a1 = some r) :
  Calls prog 138 #[pb b_a0, .int .u8 a1] w (fun e w' => ∃ (A1 : Option Addr) (c1 : Nat), e = .returned (dynV57 r.1) ∧ Inv w0 Z w' (star (pt b_a0 (.cells ([selfP b_a0 r.2.1, .slice A1 r.2.2.length c1] : LV).toArray 55 (0, 0))) (star (ownS 5 (cI .u8) 1 A1 c1 r.2.2) A))) := by
 have e4 := calls_intro (R := (fun e w' => ∃ (A1 : Option Addr) (c1 : Nat), e = .returned (dynV57 r.1) ∧ Inv w0 Z w' (star (pt b_a0 (.cells ([selfP b_a0 r.2.1, .slice A1 r.2.2.length c1] : LV).toArray 55 (0, 0))) (star (ownS 5 (cI .u8) 1 A1 c1 r.2.2) A)))) (w := w) (args := [pb b_a0, .int .u8 a1]) (fn := Go.Proofs.Tryz.f138) 17 Go.Proofs.Tryz.func138 (by rfl) Go.Proofs.Tryz.ntmps138 (by kernel_rfl)
 refine e4 ?_
 clear e4
 unfold strings_Builder_WriteByte at h0
 refine cQ (cR [0] ?_)
 refine oP (r := []) [0] (S' := [(0, pb b_a0), (1, .int .u8 a1)]) ?_
 refine oD (qT (cQ (cR [0, 1] ?_)))
 refine oP (r := [1]) [0] (S' := [(0, pb b_a0), (1, .int .u8 a1), (5, pb b_a0)]) ?_
 have hI := hI.mono (pick2 _ _ _)
 have hI := hI.mono (pick2 _ _ _)
 obtain ⟨⟨y2, y3⟩, hc1, h0⟩ := bindS h0
 try dsimp only at h0
 refine oC (jC (d := some 6) (n := 50) (vs := [pb b_a0]) (by kernel_rfl) en50 (c50 w0 w _ _ hT b_a0 uf ub uba ug hI _ hc1) ?_)
 rintro e w ⟨A4, cp5, rfl, hI⟩
 refine ⟨_, rfl, ?_⟩
 refine oD (qT (cQ (cR [0, 1, 2, 3, 4, 5, 6, 7, 8, 9, 10] ?_)))
 refine oP (r := [4, 5, 6, 7, 8, 9, 10]) [0, 1, 2, 3] (S' := [(1, .int .u8 a1), (7, pb b_a0), (10, .pointer (some ⟨b_a0, 1, none⟩))]) ?_
 refine oC (jY (jL (d := 11) (T := 52) (v := .slice A4 y3.length cp5) (by kernel_rfl) (ldB ty52 (l := ([selfP b_a0 y2, .slice A4 y3.length cp5] : LV)) (o := 1) (v := .slice A4 y3.length cp5) (ent_refl _) (by kernel_rfl))) hI ?_)
 refine oP (r := [6, 7, 8, 9, 10]) [5] (S' := [(7, pb b_a0), (11, .slice A4 y3.length cp5), (12, .int .u8 a1)]) ?_
 refine oC (Does.buildSlice (en := (cI .u8)) (d := 13) (n := 1) (T := 52) (ps := [(0, .int .u8 a1)]) ([a1] : List Int) (by kernel_rfl) Go.Proofs.Tryz.underlying52 ty5 (by kernel_rfl) (by kernel_rfl) (by kernel_rfl) (by kernel_rfl) (len_all (fun _ => rfl)) hI ?_)
 intro b6 w hI
 obtain ⟨hg7, h0⟩ := guardS h0
 have hI := hI.mono (pick3 _ _ _ _)
 refine oC (Does.append (d := 14) (t := 52) (tx := 52) (ty := 52) (ys := y3) (zs := ([a1] : List Int)) (x := .slice (some ⟨b6, 0, none⟩) (([a1] : List Int).length) 1) (by kernel_rfl) Go.Proofs.Tryz.underlying52 ty5 (by kernel_rfl) hI (src_own Go.Proofs.Tryz.underlying52 (hI.mono (pick2 _ _ _)) (one_flat _ (fun _ => rfl))) (ownS_facts (hI.mono (pick2 _ _ _))).2.2 (by unfold LIM at hg7; omega) hg7 ?_)
 intro A8 cp9 w hI
 refine oP (r := [10]) [8, 9] (S' := [(14, .slice A8 ((y3 ++ ([a1] : List Int)).length) cp9), (16, .pointer (some ⟨b_a0, 1, none⟩))]) ?_
 have hI := hI.mono (pick3 _ _ _ _)
 refine oC (dS (T := 52) (b := b_a0) (o := 1) (v := .slice A8 ((y3 ++ ([a1] : List Int)).length) cp9) (l := ([selfP b_a0 y2, .slice A4 y3.length cp5] : LV)) (vs := ([.slice A8 ((y3 ++ ([a1] : List Int)).length) cp9] : LV)) (L' := (([selfP b_a0 y2, .slice A8 ((y3 ++ ([a1] : List Int)).length) cp9] : LV))) (by kernel_rfl) ty52 hI (by kernel_rfl) (by kernel_rfl) (by kernel_rfl) (by kernel_rfl) (by kernel_rfl) ?_)
 intro w hI
 refine oD (qT (cQ (cR [0] ?_)))
 refine oP (r := []) [0] (S' := [(4, .nilIface)]) ?_
 refine oD (qT (jE ?_))
 have hI := hI.mono (pick3 _ _ _ _)
 have hI := hI.drop
 have e := someS h0
 subst e
 refine qK [4] (S' := [(4, .nilIface)]) ?_
 exact post_ret (v := .nilIface) (fun a ha => jU (vs := [.nilIface]) (.tmp (t := 4) (by kernel_rfl) .nil) ha (by kernel_rfl)) ⟨A8, cp9, rfl, hI⟩
/-- unicode/utf8.appendRuneNonASCII -/
theorem c144 (w0 w : World) (Z : Hp) (A : HP)  (hT : Tabs Z) (A_a0 : Option Addr) (c_a0 : Nat) (a0 : (List Int)) (a1 : Int) (hI : Inv w0 Z w (star (ownS 5 (cI .u8) 1 A_a0 c_a0 a0) A)) (r : (List Int)) (h0 : utf8_appendRuneNonASCII a0 a1 = some r) :
  Calls prog 144 #[.slice A_a0 a0.length c_a0, .int .i32 a1] w (fun e w' => ∃ (A1 : Option Addr) (c1 : Nat), e = .returned (.slice A1 r.length c1) ∧ Inv w0 Z w' (star (ownS 5 (cI .u8) 1 A1 c1 r) A)) := by
 have e4 := calls_intro (R := (fun e w' => ∃ (A1 : Option Addr) (c1 : Nat), e = .returned (.slice A1 r.length c1) ∧ Inv w0 Z w' (star (ownS 5 (cI .u8) 1 A1 c1 r) A))) (w := w) (args := [.slice A_a0 a0.length c_a0, .int .i32 a1]) (fn := Go.Proofs.Tryz.f144) 78 Go.Proofs.Tryz.func144 (by rfl) Go.Proofs.Tryz.ntmps144 (by kernel_rfl)
 refine e4 ?_
 clear e4
 unfold utf8_appendRuneNonASCII at h0
 refine cQ (cR [0] ?_)
 refine oP (r := []) [0] (S' := [(0, .slice A_a0 a0.length c_a0), (1, .int .i32 a1)]) ?_
 refine oD (qT (cQ (cR [0, 1, 2] ?_)))
 refine oP (r := []) [0, 1, 2] (S' := [(0, .slice A_a0 a0.length c_a0), (1, .int .i32 a1), (5, .int .u32 (wu32 a1))]) ?_
 refine oD (qT (jB (cQ (cR [0, 1, 2] ?_))))
 refine oP (r := []) [0, 1, 2] (S' := [(0, .slice A_a0 a0.length c_a0), (1, .int .i32 a1), (5, .int .u32 (wu32 a1)), (11, .bool (decide ((wu32 a1) ≤ 2047)))]) ?_
 refine oD (qT ?_)
 by_cases hb1 : (decide ((wu32 a1) ≤ 2047)) = true
 ·
  rw [if_pos hb1] at h0
  refine cY (b := decide ((wu32 a1) ≤ 2047)) hb1 ?_
  refine cQ (cR [0, 1, 2, 3, 4, 5, 6, 7, 8, 9, 10, 11] ?_)
  refine oP (r := [9, 10, 11]) [0, 1, 2, 3, 4, 5, 6, 7, 8] (S' := [(14, .slice A_a0 a0.length c_a0), (18, .int .u8 (bOr .u8 192 (wu8 (bShr .i32 a1 6)))), (22, .int .u8 (bOr .u8 128 (bAnd .u8 (wu8 a1) 63)))]) ?_
  refine oC (Does.buildSlice (en := (cI .u8)) (d := 23) (n := 2) (T := 52) (ps := [(0, .int .u8 (bOr .u8 192 (wu8 (bShr .i32 a1 6)))), (1, .int .u8 (bOr .u8 128 (bAnd .u8 (wu8 a1) 63)))]) ([bOr .u8 192 (wu8 (bShr .i32 a1 6)), bOr .u8 128 (bAnd .u8 (wu8 a1) 63)] : List Int) (by kernel_rfl) Go.Proofs.Tryz.underlying52 ty5 (by kernel_rfl) (by kernel_rfl) (by kernel_rfl) (by kernel_rfl) (len_all (fun _ => rfl)) hI ?_)
  intro b2 w hI
  obtain ⟨hg3, h0⟩ := guardS h0
  have hI := hI.mono (pick2 _ _ _)
  refine oC (Does.append (d := 24) (t := 52) (tx := 52) (ty := 52) (ys := a0) (zs := ([bOr .u8 192 (wu8 (bShr .i32 a1 6)), bOr .u8 128 (bAnd .u8 (wu8 a1) 63)] : List Int)) (x := .slice (some ⟨b2, 0, none⟩) (([bOr .u8 192 (wu8 (bShr .i32 a1 6)), bOr .u8 128 (bAnd .u8 (wu8 a1) 63)] : List Int).length) 2) (by kernel_rfl) Go.Proofs.Tryz.underlying52 ty5 (by kernel_rfl) hI (src_own Go.Proofs.Tryz.underlying52 (hI.mono (pick2 _ _ _)) (one_flat _ (fun _ => rfl))) (ownS_facts (hI.mono (pick2 _ _ _))).2.2 (by unfold LIM at hg3; omega) hg3 ?_)
  intro A4 cp5 w hI
  refine oP (r := []) [11] (S' := [(4, .slice A4 ((a0 ++ ([bOr .u8 192 (wu8 (bShr .i32 a1 6)), bOr .u8 128 (bAnd .u8 (wu8 a1) 63)] : List Int)).length) cp5)]) ?_
  refine oD (qT (jE (jQ ?_)))
  have hI := hI.mono (pick2 _ _ _)
  have hI := hI.drop
  have e := someS h0
  subst e
  refine qK [4] (S' := [(4, .slice A4 ((a0 ++ ([bOr .u8 192 (wu8 (bShr .i32 a1 6)), bOr .u8 128 (bAnd .u8 (wu8 a1) 63)] : List Int)).length) cp5)]) ?_
  exact post_ret (v := .slice A4 ((a0 ++ ([bOr .u8 192 (wu8 (bShr .i32 a1 6)), bOr .u8 128 (bAnd .u8 (wu8 a1) 63)] : List Int)).length) cp5) (fun a ha => jU (vs := [.slice A4 ((a0 ++ ([bOr .u8 192 (wu8 (bShr .i32 a1 6)), bOr .u8 128 (bAnd .u8 (wu8 a1) 63)] : List Int)).length) cp5]) (.tmp (t := 4) (by kernel_rfl) .nil) ha (by kernel_rfl)) ⟨A4, cp5, rfl, hI⟩
 ·
  rw [if_neg hb1] at h0
  refine cN (b := decide ((wu32 a1) ≤ 2047)) (by simpa using hb1) ?_
  obtain ⟨r1, h1, h0⟩ := bindS h0
  refine jM (fun a w => ∃ (x6 : Bool), x6 = r1 ∧ Fr 78 [(0, .slice A_a0 a0.length c_a0), (1, .int .i32 a1), (5, .int .u32 (wu32 a1)), (25, .bool x6)] a ∧ Inv w0 Z w (star (ownS 5 (cI .u8) 1 A_a0 c_a0 a0) A)) ?_ ?_
  ·
   refine cQ (cR [0, 1, 2] ?_)
   refine oP (r := []) [0, 1, 2] (S' := [(0, .slice A_a0 a0.length c_a0), (1, .int .i32 a1), (5, .int .u32 (wu32 a1)), (25, .bool (decide ((wu32 a1) < 55296)))]) ?_
   refine oD (qT ?_)
   by_cases hb7 : (decide ((wu32 a1) < 55296)) = true
   ·
    rw [if_pos hb7] at h1
    refine cY (b := decide ((wu32 a1) < 55296)) hb7 ?_
    refine jS ?_
    have e := someS h1
    subst e
    exact jT fun a ha => ⟨decide ((wu32 a1) < 55296), rfl, ha.keep [0, 1, 5, 25] (by kernel_rfl), hI⟩
   ·
    rw [if_neg hb7] at h1
    refine cN (b := decide ((wu32 a1) < 55296)) (by simpa using hb7) ?_
    refine cR [0, 1, 2, 3, 4, 5, 6] ?_
    refine oP (r := [3, 4, 5, 6]) [0, 1, 2] (S' := [(0, .slice A_a0 a0.length c_a0), (1, .int .i32 a1), (5, .int .u32 (wu32 a1)), (30, .bool (decide ((57343 : Int) < (wu32 a1))))]) ?_
    by_cases hb8 : (decide ((57343 : Int) < (wu32 a1))) = true
    ·
     rw [if_pos hb8] at h1
     refine OpsT.keep [0, 1, 5, 30] (S' := [(0, .slice A_a0 a0.length c_a0), (1, .int .i32 a1), (5, .int .u32 (wu32 a1)), (30, .bool true)]) (by (try simp only [hb8]); kernel_rfl) ?_
     refine oP (r := []) [3, 4, 5, 6] (S' := [(0, .slice A_a0 a0.length c_a0), (1, .int .i32 a1), (5, .int .u32 (wu32 a1)), (25, .bool (decide ((wu32 a1) ≤ 65535)))]) ?_
     refine oD ?_
     have e := someS h1
     subst e
     exact jT fun a ha => ⟨decide ((wu32 a1) ≤ 65535), rfl, ha.keep [0, 1, 5, 25] (by kernel_rfl), hI⟩
    ·
     rw [if_neg hb8] at h1
     have hb8 : (decide ((57343 : Int) < (wu32 a1))) = false := by simpa using hb8
     refine OpsT.keep [0, 1, 5, 30] (S' := [(0, .slice A_a0 a0.length c_a0), (1, .int .i32 a1), (5, .int .u32 (wu32 a1)), (30, .bool false)]) (by (try simp only [hb8]); kernel_rfl) ?_
     refine oP (r := []) [3, 4, 5, 6] (S' := [(0, .slice A_a0 a0.length c_a0), (1, .int .i32 a1), (5, .int .u32 (wu32 a1)), (25, .bool false)]) ?_
     refine oD ?_
     have e := someS h1
     subst e
     exact jT fun a ha => ⟨false, rfl, ha.keep [0, 1, 5, 25] (by kernel_rfl), hI⟩
  ·
   rintro a w ⟨x6, rfl, ha, hI⟩
   try dsimp only at h0
   refine CodT.of ?_ ha
   by_cases hb9 : x6 = true
   ·
    rw [if_pos hb9] at h0
    refine cY (b := x6) hb9 ?_
    refine cQ (cR [0, 1, 2, 3, 4, 5, 6, 7, 8, 9, 10, 11, 12, 13, 14, 15, 16] ?_)
    refine oP (r := [14, 15, 16]) [0, 1, 2, 3, 4, 5, 6, 7, 8, 9, 10, 11, 12, 13] (S' := [(34, .slice A_a0 a0.length c_a0), (38, .int .u8 (bOr .u8 224 (wu8 (bShr .i32 a1 12)))), (43, .int .u8 (bOr .u8 128 (bAnd .u8 (wu8 (bShr .i32 a1 6)) 63))), (47, .int .u8 (bOr .u8 128 (bAnd .u8 (wu8 a1) 63)))]) ?_
    refine oC (Does.buildSlice (en := (cI .u8)) (d := 48) (n := 3) (T := 52) (ps := [(0, .int .u8 (bOr .u8 224 (wu8 (bShr .i32 a1 12)))), (1, .int .u8 (bOr .u8 128 (bAnd .u8 (wu8 (bShr .i32 a1 6)) 63))), (2, .int .u8 (bOr .u8 128 (bAnd .u8 (wu8 a1) 63)))]) ([bOr .u8 224 (wu8 (bShr .i32 a1 12)), bOr .u8 128 (bAnd .u8 (wu8 (bShr .i32 a1 6)) 63), bOr .u8 128 (bAnd .u8 (wu8 a1) 63)] : List Int) (by kernel_rfl) Go.Proofs.Tryz.underlying52 ty5 (by kernel_rfl) (by kernel_rfl) (by kernel_rfl) (by kernel_rfl) (len_all (fun _ => rfl)) hI ?_)
    intro b10 w hI
    obtain ⟨hg11, h0⟩ := guardS h0
    have hI := hI.mono (pick2 _ _ _)
    refine oC (Does.append (d := 49) (t := 52) (tx := 52) (ty := 52) (ys := a0) (zs := ([bOr .u8 224 (wu8 (bShr .i32 a1 12)), bOr .u8 128 (bAnd .u8 (wu8 (bShr .i32 a1 6)) 63), bOr .u8 128 (bAnd .u8 (wu8 a1) 63)] : List Int)) (x := .slice (some ⟨b10, 0, none⟩) (([bOr .u8 224 (wu8 (bShr .i32 a1 12)), bOr .u8 128 (bAnd .u8 (wu8 (bShr .i32 a1 6)) 63), bOr .u8 128 (bAnd .u8 (wu8 a1) 63)] : List Int).length) 3) (by kernel_rfl) Go.Proofs.Tryz.underlying52 ty5 (by kernel_rfl) hI (src_own Go.Proofs.Tryz.underlying52 (hI.mono (pick2 _ _ _)) (one_flat _ (fun _ => rfl))) (ownS_facts (hI.mono (pick2 _ _ _))).2.2 (by unfold LIM at hg11; omega) hg11 ?_)
    intro A12 cp13 w hI
    refine oP (r := []) [16] (S' := [(4, .slice A12 ((a0 ++ ([bOr .u8 224 (wu8 (bShr .i32 a1 12)), bOr .u8 128 (bAnd .u8 (wu8 (bShr .i32 a1 6)) 63), bOr .u8 128 (bAnd .u8 (wu8 a1) 63)] : List Int)).length) cp13)]) ?_
    refine oD (qT (jE (jQ ?_)))
    have hI := hI.mono (pick2 _ _ _)
    have hI := hI.drop
    have e := someS h0
    subst e
    refine qK [4] (S' := [(4, .slice A12 ((a0 ++ ([bOr .u8 224 (wu8 (bShr .i32 a1 12)), bOr .u8 128 (bAnd .u8 (wu8 (bShr .i32 a1 6)) 63), bOr .u8 128 (bAnd .u8 (wu8 a1) 63)] : List Int)).length) cp13)]) ?_
    exact post_ret (v := .slice A12 ((a0 ++ ([bOr .u8 224 (wu8 (bShr .i32 a1 12)), bOr .u8 128 (bAnd .u8 (wu8 (bShr .i32 a1 6)) 63), bOr .u8 128 (bAnd .u8 (wu8 a1) 63)] : List Int)).length) cp13) (fun a ha => jU (vs := [.slice A12 ((a0 ++ ([bOr .u8 224 (wu8 (bShr .i32 a1 12)), bOr .u8 128 (bAnd .u8 (wu8 (bShr .i32 a1 6)) 63), bOr .u8 128 (bAnd .u8 (wu8 a1) 63)] : List Int)).length) cp13]) (.tmp (t := 4) (by kernel_rfl) .nil) ha (by kernel_rfl)) ⟨A12, cp13, rfl, hI⟩
   ·
    rw [if_neg hb9] at h0
    refine cN (b := x6) (by simpa using hb9) ?_
    obtain ⟨r1, h1, h0⟩ := bindS h0
    refine jM (fun a w => ∃ (x14 : Bool), x14 = r1 ∧ Fr 78 [(0, .slice A_a0 a0.length c_a0), (1, .int .i32 a1), (50, .bool x14)] a ∧ Inv w0 Z w (star (ownS 5 (cI .u8) 1 A_a0 c_a0 a0) A)) ?_ ?_
    ·
     refine cR [0, 1, 2, 3, 4, 5, 6] ?_
     refine oP (r := [3, 4, 5, 6]) [0, 1, 2] (S' := [(0, .slice A_a0 a0.length c_a0), (1, .int .i32 a1), (5, .int .u32 (wu32 a1)), (53, .bool (decide ((wu32 a1) > 65535)))]) ?_
     by_cases hb15 : (decide ((wu32 a1) > 65535)) = true
     ·
      rw [if_pos hb15] at h1
      refine OpsT.keep [0, 1, 5, 53] (S' := [(0, .slice A_a0 a0.length c_a0), (1, .int .i32 a1), (5, .int .u32 (wu32 a1)), (53, .bool true)]) (by (try simp only [hb15]); kernel_rfl) ?_
      refine oP (r := []) [3, 4, 5, 6] (S' := [(0, .slice A_a0 a0.length c_a0), (1, .int .i32 a1), (50, .bool (decide ((wu32 a1) ≤ 1114111)))]) ?_
      refine oD ?_
      have e := someS h1
      subst e
      exact jT fun a ha => ⟨decide ((wu32 a1) ≤ 1114111), rfl, ha.keep [0, 1, 50] (by kernel_rfl), hI⟩
     ·
      rw [if_neg hb15] at h1
      have hb15 : (decide ((wu32 a1) > 65535)) = false := by simpa using hb15
      refine OpsT.keep [0, 1, 5, 53] (S' := [(0, .slice A_a0 a0.length c_a0), (1, .int .i32 a1), (5, .int .u32 (wu32 a1)), (53, .bool false)]) (by (try simp only [hb15]); kernel_rfl) ?_
      refine oP (r := []) [3, 4, 5, 6] (S' := [(0, .slice A_a0 a0.length c_a0), (1, .int .i32 a1), (50, .bool false)]) ?_
      refine oD ?_
      have e := someS h1
      subst e
      exact jT fun a ha => ⟨false, rfl, ha.keep [0, 1, 50] (by kernel_rfl), hI⟩
    ·
     rintro a w ⟨x14, rfl, ha, hI⟩
     try dsimp only at h0
     refine CodT.of ?_ ha
     by_cases hb16 : x14 = true
     ·
      rw [if_pos hb16] at h0
      refine cY (b := x14) hb16 ?_
      refine cQ (cR [0, 1, 2, 3, 4, 5, 6, 7, 8, 9, 10, 11, 12, 13, 14, 15, 16, 17, 18, 19, 20, 21] ?_)
      refine oP (r := [19, 20, 21]) [0, 1, 2, 3, 4, 5, 6, 7, 8, 9, 10, 11, 12, 13, 14, 15, 16, 17, 18] (S' := [(57, .slice A_a0 a0.length c_a0), (61, .int .u8 (bOr .u8 240 (wu8 (bShr .i32 a1 18)))), (66, .int .u8 (bOr .u8 128 (bAnd .u8 (wu8 (bShr .i32 a1 12)) 63))), (71, .int .u8 (bOr .u8 128 (bAnd .u8 (wu8 (bShr .i32 a1 6)) 63))), (75, .int .u8 (bOr .u8 128 (bAnd .u8 (wu8 a1) 63)))]) ?_
      refine oC (Does.buildSlice (en := (cI .u8)) (d := 76) (n := 4) (T := 52) (ps := [(0, .int .u8 (bOr .u8 240 (wu8 (bShr .i32 a1 18)))), (1, .int .u8 (bOr .u8 128 (bAnd .u8 (wu8 (bShr .i32 a1 12)) 63))), (2, .int .u8 (bOr .u8 128 (bAnd .u8 (wu8 (bShr .i32 a1 6)) 63))), (3, .int .u8 (bOr .u8 128 (bAnd .u8 (wu8 a1) 63)))]) ([bOr .u8 240 (wu8 (bShr .i32 a1 18)), bOr .u8 128 (bAnd .u8 (wu8 (bShr .i32 a1 12)) 63), bOr .u8 128 (bAnd .u8 (wu8 (bShr .i32 a1 6)) 63), bOr .u8 128 (bAnd .u8 (wu8 a1) 63)] : List Int) (by kernel_rfl) Go.Proofs.Tryz.underlying52 ty5 (by kernel_rfl) (by kernel_rfl) (by kernel_rfl) (by kernel_rfl) (len_all (fun _ => rfl)) hI ?_)
      intro b17 w hI
      obtain ⟨hg18, h0⟩ := guardS h0
      have hI := hI.mono (pick2 _ _ _)
      refine oC (Does.append (d := 77) (t := 52) (tx := 52) (ty := 52) (ys := a0) (zs := ([bOr .u8 240 (wu8 (bShr .i32 a1 18)), bOr .u8 128 (bAnd .u8 (wu8 (bShr .i32 a1 12)) 63), bOr .u8 128 (bAnd .u8 (wu8 (bShr .i32 a1 6)) 63), bOr .u8 128 (bAnd .u8 (wu8 a1) 63)] : List Int)) (x := .slice (some ⟨b17, 0, none⟩) (([bOr .u8 240 (wu8 (bShr .i32 a1 18)), bOr .u8 128 (bAnd .u8 (wu8 (bShr .i32 a1 12)) 63), bOr .u8 128 (bAnd .u8 (wu8 (bShr .i32 a1 6)) 63), bOr .u8 128 (bAnd .u8 (wu8 a1) 63)] : List Int).length) 4) (by kernel_rfl) Go.Proofs.Tryz.underlying52 ty5 (by kernel_rfl) hI (src_own Go.Proofs.Tryz.underlying52 (hI.mono (pick2 _ _ _)) (one_flat _ (fun _ => rfl))) (ownS_facts (hI.mono (pick2 _ _ _))).2.2 (by unfold LIM at hg18; omega) hg18 ?_)
      intro A19 cp20 w hI
      refine oP (r := []) [21] (S' := [(4, .slice A19 ((a0 ++ ([bOr .u8 240 (wu8 (bShr .i32 a1 18)), bOr .u8 128 (bAnd .u8 (wu8 (bShr .i32 a1 12)) 63), bOr .u8 128 (bAnd .u8 (wu8 (bShr .i32 a1 6)) 63), bOr .u8 128 (bAnd .u8 (wu8 a1) 63)] : List Int)).length) cp20)]) ?_
      refine oD (qT (jE (jQ ?_)))
      have hI := hI.mono (pick2 _ _ _)
      have hI := hI.drop
      have e := someS h0
      subst e
      refine qK [4] (S' := [(4, .slice A19 ((a0 ++ ([bOr .u8 240 (wu8 (bShr .i32 a1 18)), bOr .u8 128 (bAnd .u8 (wu8 (bShr .i32 a1 12)) 63), bOr .u8 128 (bAnd .u8 (wu8 (bShr .i32 a1 6)) 63), bOr .u8 128 (bAnd .u8 (wu8 a1) 63)] : List Int)).length) cp20)]) ?_
      exact post_ret (v := .slice A19 ((a0 ++ ([bOr .u8 240 (wu8 (bShr .i32 a1 18)), bOr .u8 128 (bAnd .u8 (wu8 (bShr .i32 a1 12)) 63), bOr .u8 128 (bAnd .u8 (wu8 (bShr .i32 a1 6)) 63), bOr .u8 128 (bAnd .u8 (wu8 a1) 63)] : List Int)).length) cp20) (fun a ha => jU (vs := [.slice A19 ((a0 ++ ([bOr .u8 240 (wu8 (bShr .i32 a1 18)), bOr .u8 128 (bAnd .u8 (wu8 (bShr .i32 a1 12)) 63), bOr .u8 128 (bAnd .u8 (wu8 (bShr .i32 a1 6)) 63), bOr .u8 128 (bAnd .u8 (wu8 a1) 63)] : List Int)).length) cp20]) (.tmp (t := 4) (by kernel_rfl) .nil) ha (by kernel_rfl)) ⟨A19, cp20, rfl, hI⟩
     ·
      rw [if_neg hb16] at h0
      refine cN (b := x14) (by simpa using hb16) ?_
      refine cQ (cR [0, 1, 2, 3] ?_)
      refine oP (r := [1, 2, 3]) [0] (S' := [(8, .slice A_a0 a0.length c_a0)]) ?_
      refine oC (Does.buildSlice (en := (cI .u8)) (d := 9) (n := 3) (T := 52) (ps := [(0, .int .u8 239), (1, .int .u8 191), (2, .int .u8 189)]) ([239, 191, 189] : List Int) (by kernel_rfl) Go.Proofs.Tryz.underlying52 ty5 (by kernel_rfl) (by kernel_rfl) (by kernel_rfl) (by kernel_rfl) (len_all (fun _ => rfl)) hI ?_)
      intro b21 w hI
      obtain ⟨hg22, h0⟩ := guardS h0
      have hI := hI.mono (pick2 _ _ _)
      refine oC (Does.append (d := 10) (t := 52) (tx := 52) (ty := 52) (ys := a0) (zs := ([239, 191, 189] : List Int)) (x := .slice (some ⟨b21, 0, none⟩) (([239, 191, 189] : List Int).length) 3) (by kernel_rfl) Go.Proofs.Tryz.underlying52 ty5 (by kernel_rfl) hI (src_own Go.Proofs.Tryz.underlying52 (hI.mono (pick2 _ _ _)) (one_flat _ (fun _ => rfl))) (ownS_facts (hI.mono (pick2 _ _ _))).2.2 (by unfold LIM at hg22; omega) hg22 ?_)
      intro A23 cp24 w hI
      refine oP (r := []) [3] (S' := [(4, .slice A23 ((a0 ++ ([239, 191, 189] : List Int)).length) cp24)]) ?_
      refine oD (qT (jE (jQ ?_)))
      have hI := hI.mono (pick2 _ _ _)
      have hI := hI.drop
      have e := someS h0
      subst e
      refine qK [4] (S' := [(4, .slice A23 ((a0 ++ ([239, 191, 189] : List Int)).length) cp24)]) ?_
      exact post_ret (v := .slice A23 ((a0 ++ ([239, 191, 189] : List Int)).length) cp24) (fun a ha => jU (vs := [.slice A23 ((a0 ++ ([239, 191, 189] : List Int)).length) cp24]) (.tmp (t := 4) (by kernel_rfl) .nil) ha (by kernel_rfl)) ⟨A23, cp24, rfl, hI⟩
/-- unicode/utf8.AppendRune -/
theorem c142 (w0 w : World) (Z : Hp) (A : HP)  (hT : Tabs Z) (A_a0 : Option Addr) (c_a0 : Nat) (a0 : (List Int)) (a1 : Int) (hI : Inv w0 Z w (star (ownS 5 (cI .u8) 1 A_a0 c_a0 a0) A)) (r : (List Int)) (h0 : utf8_AppendRune a0 a1 = some r) :
  Calls prog 142 #[.slice A_a0 a0.length c_a0, .int .i32 a1] w (fun e w' => ∃ (A1 : Option Addr) (c1 : Nat), e = .returned (.slice A1 r.length c1) ∧ Inv w0 Z w' (star (ownS 5 (cI .u8) 1 A1 c1 r) A)) := by
 have e4 := calls_intro (R := (fun e w' => ∃ (A1 : Option Addr) (c1 : Nat), e = .returned (.slice A1 r.length c1) ∧ Inv w0 Z w' (star (ownS 5 (cI .u8) 1 A1 c1 r) A))) (w := w) (args := [.slice A_a0 a0.length c_a0, .int .i32 a1]) (fn := Go.Proofs.Tryz.f142) 16 Go.Proofs.Tryz.func142 (by rfl) Go.Proofs.Tryz.ntmps142 (by kernel_rfl)
 refine e4 ?_
 clear e4
 unfold utf8_AppendRune at h0
 refine cQ (cR [0] ?_)
 refine oP (r := []) [0] (S' := [(0, .slice A_a0 a0.length c_a0), (1, .int .i32 a1)]) ?_
 refine oD (qT (cQ (cQ (cR [0, 1, 2] ?_))))
 refine oP (r := []) [0, 1, 2] (S' := [(0, .slice A_a0 a0.length c_a0), (1, .int .i32 a1), (7, .bool (decide ((wu32 a1) ≤ 127)))]) ?_
 refine oD (qT ?_)
 by_cases hb1 : (decide ((wu32 a1) ≤ 127)) = true
 ·
  rw [if_pos hb1] at h0
  refine cY (b := decide ((wu32 a1) ≤ 127)) hb1 ?_
  refine cQ (cR [0, 1, 2, 3, 4, 5] ?_)
  refine oP (r := [3, 4, 5]) [0, 1, 2] (S' := [(8, .slice A_a0 a0.length c_a0), (10, .int .u8 (wu8 a1))]) ?_
  refine oC (Does.buildSlice (en := (cI .u8)) (d := 11) (n := 1) (T := 52) (ps := [(0, .int .u8 (wu8 a1))]) ([wu8 a1] : List Int) (by kernel_rfl) Go.Proofs.Tryz.underlying52 ty5 (by kernel_rfl) (by kernel_rfl) (by kernel_rfl) (by kernel_rfl) (len_all (fun _ => rfl)) hI ?_)
  intro b2 w hI
  obtain ⟨hg3, h0⟩ := guardS h0
  have hI := hI.mono (pick2 _ _ _)
  refine oC (Does.append (d := 12) (t := 52) (tx := 52) (ty := 52) (ys := a0) (zs := ([wu8 a1] : List Int)) (x := .slice (some ⟨b2, 0, none⟩) (([wu8 a1] : List Int).length) 1) (by kernel_rfl) Go.Proofs.Tryz.underlying52 ty5 (by kernel_rfl) hI (src_own Go.Proofs.Tryz.underlying52 (hI.mono (pick2 _ _ _)) (one_flat _ (fun _ => rfl))) (ownS_facts (hI.mono (pick2 _ _ _))).2.2 (by unfold LIM at hg3; omega) hg3 ?_)
  intro A4 cp5 w hI
  refine oP (r := []) [5] (S' := [(4, .slice A4 ((a0 ++ ([wu8 a1] : List Int)).length) cp5)]) ?_
  refine oD (qT (jE (jR ?_)))
  have hI := hI.mono (pick2 _ _ _)
  have hI := hI.drop
  have e := someS h0
  subst e
  refine qK [4] (S' := [(4, .slice A4 ((a0 ++ ([wu8 a1] : List Int)).length) cp5)]) ?_
  exact post_ret (v := .slice A4 ((a0 ++ ([wu8 a1] : List Int)).length) cp5) (fun a ha => jU (vs := [.slice A4 ((a0 ++ ([wu8 a1] : List Int)).length) cp5]) (.tmp (t := 4) (by kernel_rfl) .nil) ha (by kernel_rfl)) ⟨A4, cp5, rfl, hI⟩
 ·
  rw [if_neg hb1] at h0
  refine cN (b := decide ((wu32 a1) ≤ 127)) (by simpa using hb1) ?_
  refine jS (qT (cQ (cR [0, 1, 2, 3] ?_)))
  refine oP (r := [2, 3]) [0, 1] (S' := [(13, .slice A_a0 a0.length c_a0), (14, .int .i32 a1)]) ?_
  obtain ⟨y7, hc6, h0⟩ := bindS h0
  try dsimp only at h0
  refine oC (jC (d := some 15) (n := 144) (vs := [.slice A_a0 a0.length c_a0, .int .i32 a1]) (by kernel_rfl) en144 (c144 w0 w _ _ hT A_a0 c_a0 a0 a1 hI _ hc6) ?_)
  rintro e w ⟨A8, cp9, rfl, hI⟩
  refine ⟨_, rfl, ?_⟩
  refine oP (r := []) [3] (S' := [(4, .slice A8 y7.length cp9)]) ?_
  refine oD (qT (jE ?_))
  have e := someS h0
  subst e
  refine qK [4] (S' := [(4, .slice A8 y7.length cp9)]) ?_
  exact post_ret (v := .slice A8 y7.length cp9) (fun a ha => jU (vs := [.slice A8 y7.length cp9]) (.tmp (t := 4) (by kernel_rfl) .nil) ha (by kernel_rfl)) ⟨A8, cp9, rfl, hI⟩
/-- (*strings.Builder).WriteRune -/
theorem c139 (w0 w : World) (Z : Hp) (A : HP)  (hT : Tabs Z) (b_a0 : Nat) (uf : Bool) (ub : Option Addr) (uba : Nat) (ug : (List Int)) (a1 : Int) (hI : Inv w0 Z w (star (pt b_a0 (.cells ([selfP b_a0 uf, .slice ub ug.length uba] : LV).toArray 55 (0, 0))) (star (ownS 5 (cI .u8) 1 ub uba ug) A))) (r : (Int × Dyn57 × Bool × (List Int))) (h0 : strings_Builder_WriteRune uf ug a1 = some r) :
  Calls prog 139 #[pb b_a0, .int .i32 a1] w (fun e w' => ∃ (A1 : Option Addr) (c1 : Nat), e = .returned (.tuple #[iv r.1, dynV57 r.2.1]) ∧ Inv w0 Z w' (star (pt b_a0 (.cells ([selfP b_a0 r.2.2.1, .slice A1 r.2.2.2.length c1] : LV).toArray 55 (0, 0))) (star (ownS 5 (cI .u8) 1 A1 c1 r.2.2.2) A))) := by
 have e4 := calls_intro (R := (fun e w' => ∃ (A1 : Option Addr) (c1 : Nat), e = .returned (.tuple #[iv r.1, dynV57 r.2.1]) ∧ Inv w0 Z w' (star (pt b_a0 (.cells ([selfP b_a0 r.2.2.1, .slice A1 r.2.2.2.length c1] : LV).toArray 55 (0, 0))) (star (ownS 5 (cI .u8) 1 A1 c1 r.2.2.2) A)))) (w := w) (args := [pb b_a0, .int .i32 a1]) (fn := Go.Proofs.Tryz.f139) 30 Go.Proofs.Tryz.func139 (by rfl) Go.Proofs.Tryz.ntmps139 (by kernel_rfl)
 refine e4 ?_
 clear e4
 unfold strings_Builder_WriteRune at h0
 refine cQ (cR [0, 1] ?_)
 refine oP (r := []) [0, 1] (S' := [(0, pb b_a0), (1, .int .i32 a1)]) ?_
 refine oD (qT (cQ (cR [0, 1] ?_)))
 refine oP (r := [1]) [0] (S' := [(0, pb b_a0), (1, .int .i32 a1), (7, pb b_a0)]) ?_
 have hI := hI.mono (pick2 _ _ _)
 have hI := hI.mono (pick2 _ _ _)
 obtain ⟨⟨y2, y3⟩, hc1, h0⟩ := bindS h0
 try dsimp only at h0
 refine oC (jC (d := some 8) (n := 50) (vs := [pb b_a0]) (by kernel_rfl) en50 (c50 w0 w _ _ hT b_a0 uf ub uba ug hI _ hc1) ?_)
 rintro e w ⟨A4, cp5, rfl, hI⟩
 refine ⟨_, rfl, ?_⟩
 refine oD (qT (cQ (cR [0, 1, 2, 3, 4, 5] ?_)))
 refine oP (r := [3, 4, 5]) [0, 1, 2] (S' := [(0, pb b_a0), (1, .int .i32 a1), (11, .pointer (some ⟨b_a0, 1, none⟩))]) ?_
 refine oC (jY (jL (d := 12) (T := 52) (v := .slice A4 y3.length cp5) (by kernel_rfl) (ldB ty52 (l := ([selfP b_a0 y2, .slice A4 y3.length cp5] : LV)) (o := 1) (v := .slice A4 y3.length cp5) (ent_refl _) (by kernel_rfl))) hI ?_)
 refine oP (r := []) [4, 5] (S' := [(0, pb b_a0), (1, .int .i32 a1), (6, iv (y3.length : Int))]) ?_
 refine oD (qT (cQ (cR [0, 1, 2, 3, 4, 5, 6, 7, 8, 9] ?_)))
 refine oP (r := [4, 5, 6, 7, 8, 9]) [0, 1, 2, 3] (S' := [(0, pb b_a0), (1, .int .i32 a1), (6, iv (y3.length : Int)), (14, pb b_a0), (17, .pointer (some ⟨b_a0, 1, none⟩))]) ?_
 refine oC (jY (jL (d := 18) (T := 52) (v := .slice A4 y3.length cp5) (by kernel_rfl) (ldB ty52 (l := ([selfP b_a0 y2, .slice A4 y3.length cp5] : LV)) (o := 1) (v := .slice A4 y3.length cp5) (ent_refl _) (by kernel_rfl))) hI ?_)
 refine oP (r := [6, 7, 8, 9]) [5] (S' := [(0, pb b_a0), (6, iv (y3.length : Int)), (14, pb b_a0), (18, .slice A4 y3.length cp5), (19, .int .i32 a1)]) ?_
 have hI := hI.mono (pick2 _ _ _)
 obtain ⟨y7, hc6, h0⟩ := bindS h0
 try dsimp only at h0
 refine oC (jC (d := some 20) (n := 142) (vs := [.slice A4 y3.length cp5, .int .i32 a1]) (by kernel_rfl) en142 (c142 w0 w _ _ hT A4 cp5 y3 a1 hI _ hc6) ?_)
 rintro e w ⟨A8, cp9, rfl, hI⟩
 refine ⟨_, rfl, ?_⟩
 refine oP (r := [9]) [7, 8] (S' := [(0, pb b_a0), (6, iv (y3.length : Int)), (20, .slice A8 y7.length cp9), (22, .pointer (some ⟨b_a0, 1, none⟩))]) ?_
 have hI := hI.mono (pick2 _ _ _)
 refine oC (dS (T := 52) (b := b_a0) (o := 1) (v := .slice A8 y7.length cp9) (l := ([selfP b_a0 y2, .slice A4 y3.length cp5] : LV)) (vs := ([.slice A8 y7.length cp9] : LV)) (L' := ([selfP b_a0 y2, .slice A8 y7.length cp9] : LV)) (by kernel_rfl) ty52 hI (by kernel_rfl) (by kernel_rfl) (by kernel_rfl) (by kernel_rfl) (by kernel_rfl) ?_)
 intro w hI
 refine oD (qT (cQ (cR [0, 1, 2, 3, 4, 5, 6, 7, 8] ?_)))
 refine oP (r := [3, 4, 5, 6, 7, 8]) [0, 1, 2] (S' := [(6, iv (y3.length : Int)), (25, .pointer (some ⟨b_a0, 1, none⟩))]) ?_
 refine oC (jY (jL (d := 26) (T := 52) (v := .slice A8 y7.length cp9) (by kernel_rfl) (ldB ty52 (l := ([selfP b_a0 y2, .slice A8 y7.length cp9] : LV)) (o := 1) (v := .slice A8 y7.length cp9) (ent_refl _) (by kernel_rfl))) hI ?_)
 refine oP (r := []) [4, 5, 6, 7, 8] (S' := [(4, iv (wi64 ((y7.length : Int) - (y3.length : Int)))), (5, .nilIface)]) ?_
 refine oD (qT (jE ?_))
 have e := someS h0
 subst e
 refine qK [4, 5] (S' := [(4, iv (wi64 ((y7.length : Int) - (y3.length : Int)))), (5, .nilIface)]) ?_
 exact post_ret (v := .tuple #[iv (wi64 ((y7.length : Int) - (y3.length : Int))), .nilIface]) (fun a ha => jU (vs := [iv (wi64 ((y7.length : Int) - (y3.length : Int))), .nilIface]) (.tmp (t := 4) (by kernel_rfl) (.tmp (t := 5) (by kernel_rfl) .nil)) ha (by kernel_rfl)) ⟨A8, cp9, rfl, hI⟩
/-- (*strings.Builder).Write -/
theorem c140 (w0 w : World) (Z : Hp) (A : HP)  (hT : Tabs Z) (b_a0 : Nat) (uf : Bool) (ub : Option Addr) (uba : Nat) (ug : (List Int)) (A_a1 : Option Addr) (c_a1 : Nat) (a1 : (List Int)) (hr_a1 : RdS Z (cI .u8) 1 A_a1 c_a1 a1) (hI : Inv w0 Z w (star (pt b_a0 (.cells ([selfP b_a0 uf, .slice ub ug.length uba] : LV).toArray 55 (0, 0))) (star (ownS 5 (cI .u8) 1 ub uba ug) A))) (r : (Int × Dyn57 × Bool × (List Int))) (h0 : strings_Builder_Write uf ug a1 = some r) :
  Calls prog 140 #[pb b_a0, .slice A_a1 a1.length c_a1] w (fun e w' => ∃ (A1 : Option Addr) (c1 : Nat), e = .returned (.tuple #[iv r.1, dynV57 r.2.1]) ∧ Inv w0 Z w' (star (pt b_a0 (.cells ([selfP b_a0 r.2.2.1, .slice A1 r.2.2.2.length c1] : LV).toArray 55 (0, 0))) (star (ownS 5 (cI .u8) 1 A1 c1 r.2.2.2) A))) := by
 have e4 := calls_intro (R := (fun e w' => ∃ (A1 : Option Addr) (c1 : Nat), e = .returned (.tuple #[iv r.1, dynV57 r.2.1]) ∧ Inv w0 Z w' (star (pt b_a0 (.cells ([selfP b_a0 r.2.2.1, .slice A1 r.2.2.2.length c1] : LV).toArray 55 (0, 0))) (star (ownS 5 (cI .u8) 1 A1 c1 r.2.2.2) A)))) (w := w) (args := [pb b_a0, .slice A_a1 a1.length c_a1]) (fn := Go.Proofs.Tryz.f140) 19 Go.Proofs.Tryz.func140 (by rfl) Go.Proofs.Tryz.ntmps140 (by kernel_rfl)
 refine e4 ?_
 clear e4
 unfold strings_Builder_Write at h0
 refine cQ (cR [0, 1] ?_)
 refine oP (r := []) [0, 1] (S' := [(0, pb b_a0), (1, .slice A_a1 a1.length c_a1)]) ?_
 refine oD (qT (cQ (cR [0, 1] ?_)))
 refine oP (r := [1]) [0] (S' := [(0, pb b_a0), (1, .slice A_a1 a1.length c_a1), (6, pb b_a0)]) ?_
 have hI := hI.mono (pick2 _ _ _)
 have hI := hI.mono (pick2 _ _ _)
 obtain ⟨⟨y2, y3⟩, hc1, h0⟩ := bindS h0
 try dsimp only at h0
 refine oC (jC (d := some 7) (n := 50) (vs := [pb b_a0]) (by kernel_rfl) en50 (c50 w0 w _ _ hT b_a0 uf ub uba ug hI _ hc1) ?_)
 rintro e w ⟨A4, cp5, rfl, hI⟩
 refine ⟨_, rfl, ?_⟩
 refine oD (qT (cQ (cR [0, 1, 2, 3, 4, 5, 6, 7, 8, 9] ?_)))
 refine oP (r := [4, 5, 6, 7, 8, 9]) [0, 1, 2, 3] (S' := [(1, .slice A_a1 a1.length c_a1), (8, pb b_a0), (11, .pointer (some ⟨b_a0, 1, none⟩))]) ?_
 refine oC (jY (jL (d := 12) (T := 52) (v := .slice A4 y3.length cp5) (by kernel_rfl) (ldB ty52 (l := ([selfP b_a0 y2, .slice A4 y3.length cp5] : LV)) (o := 1) (v := .slice A4 y3.length cp5) (ent_refl _) (by kernel_rfl))) hI ?_)
 refine oP (r := [6, 7, 8, 9]) [5] (S' := [(1, .slice A_a1 a1.length c_a1), (8, pb b_a0), (12, .slice A4 y3.length cp5), (13, .slice A_a1 a1.length c_a1)]) ?_
 obtain ⟨hg6, h0⟩ := guardS h0
 have hI := hI.mono (pick2 _ _ _)
 refine oC (Does.append (d := 14) (t := 52) (tx := 52) (ty := 52) (ys := y3) (zs := a1) (x := .slice A_a1 a1.length c_a1) (by kernel_rfl) Go.Proofs.Tryz.underlying52 ty5 (by kernel_rfl) hI (src_rd Go.Proofs.Tryz.underlying52 hI hr_a1 (one_flat _ (fun _ => rfl))) hr_a1.2.2.1 (by unfold LIM at hg6; omega) hg6 ?_)
 intro A7 cp8 w hI
 refine oP (r := [9]) [7, 8] (S' := [(1, .slice A_a1 a1.length c_a1), (14, .slice A7 ((y3 ++ a1).length) cp8), (16, .pointer (some ⟨b_a0, 1, none⟩))]) ?_
 have hI := hI.mono (pick2 _ _ _)
 refine oC (dS (T := 52) (b := b_a0) (o := 1) (v := .slice A7 ((y3 ++ a1).length) cp8) (l := ([selfP b_a0 y2, .slice A4 y3.length cp5] : LV)) (vs := ([.slice A7 ((y3 ++ a1).length) cp8] : LV)) (L' := ([selfP b_a0 y2, .slice A7 ((y3 ++ a1).length) cp8] : LV)) (by kernel_rfl) ty52 hI (by kernel_rfl) (by kernel_rfl) (by kernel_rfl) (by kernel_rfl) (by kernel_rfl) ?_)
 intro w hI
 refine oD (qT (cQ (cR [0, 1, 2, 3] ?_)))
 refine oP (r := []) [0, 1, 2, 3] (S' := [(4, iv (a1.length : Int)), (5, .nilIface)]) ?_
 refine oD (qT (jE ?_))
 have e := someS h0
 subst e
 refine qK [4, 5] (S' := [(4, iv (a1.length : Int)), (5, .nilIface)]) ?_
 exact post_ret (v := .tuple #[iv (a1.length : Int), .nilIface]) (fun a ha => jU (vs := [iv (a1.length : Int), .nilIface]) (.tmp (t := 4) (by kernel_rfl) (.tmp (t := 5) (by kernel_rfl) .nil)) ha (by kernel_rfl)) ⟨A7, cp8, rfl, hI⟩
/-- cenotaph/name.broken -/
theorem c141 (w0 w : World) (Z : Hp) (A : HP) (hI : Inv w0 Z w A) (hT : Tabs Z) (a0 : ByteArray) (a1 : Int) (a2 : Int) (r : Bool) (h0 : name_broken a0 a1 a2 = some r) :
  Calls prog 141 #[.string a0, iv a1, .int .i32 a2] w (fun e w' => e = .returned (.bool r) ∧ Inv w0 Z w' A) := by
 have e4 := calls_intro (R := (fun e w' => e = .returned (.bool r) ∧ Inv w0 Z w' A)) (w := w) (args := [.string a0, iv a1, .int .i32 a2]) (fn := Go.Proofs.Tryz.f141) 20 Go.Proofs.Tryz.func141 (by rfl) Go.Proofs.Tryz.ntmps141 (by kernel_rfl)
 refine e4 ?_
 clear e4
 unfold name_broken at h0
 refine cQ (cR [0] ?_)
 refine oP (r := []) [0] (S' := [(0, .string a0), (1, iv a1), (2, .int .i32 a2)]) ?_
 refine oD (qT (cQ (cQ (cR [0, 1] ?_))))
 refine oP (r := []) [0, 1] (S' := [(0, .string a0), (1, iv a1), (10, .bool (a2 != 65533))]) ?_
 refine oD (qT ?_)
 by_cases hb1 : (a2 != 65533) = true
 ·
  rw [if_pos hb1] at h0
  refine cY (b := a2 != 65533) hb1 ?_
  refine cQ (cR [0] ?_)
  refine oP (r := []) [0] (S' := [(6, .bool false)]) ?_
  refine oD (qT (jE (jR ?_)))
  have e := someS h0
  subst e
  refine qK [6] (S' := [(6, .bool false)]) ?_
  exact post_ret (v := .bool false) (fun a ha => jU (vs := [.bool false]) (.tmp (t := 6) (by kernel_rfl) .nil) ha (by kernel_rfl)) ⟨rfl, hI⟩
 ·
  rw [if_neg hb1] at h0
  refine cN (b := a2 != 65533) (by simpa using hb1) ?_
  refine jS (qT (cQ (cR [0, 1, 2, 3, 4, 5, 6, 7, 8] ?_)))
  refine oP (r := [2, 3, 4, 5, 6, 7, 8]) [0, 1] (S' := [(12, .string a0), (13, iv a1)]) ?_
  obtain ⟨hg2, h0⟩ := guardS h0
  refine oC (jY (Yl.sliceStr10 (d := 14) (T := 9) (s := a0) (lo := a1) (by kernel_rfl) Go.Proofs.Tryz.underlying9 hg2) hI ?_)
  cases h0
end Go.Cen
