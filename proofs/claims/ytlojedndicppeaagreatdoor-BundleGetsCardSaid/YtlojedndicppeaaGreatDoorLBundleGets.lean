/- The walk of the law BundleGets, printed by a program of ours. -/
import Derived.Test.YtlojedndicppeaaGreatDoorPx
import Derived.Test.YtlojedndicppeaaGreatDoorWx6
set_option linter.unusedVariables false
set_option linter.unusedSimpArgs false
namespace Go.Cen
set_option maxRecDepth 100000
set_option maxHeartbeats 4000000
/-- cenotaph/cenotaphlaw11.BundleGets -/
theorem c4 (w0 w : World) (Z : Hp) (A : HP) (hI : Inv w0 Z w A) (hT : Tabs Z) (a0 : ByteArray) (r : Bool) (h0 : law11_BundleGets a0 = some r) :
  Calls prog 4 #[.string a0] w (fun e w' => e = .returned (.bool r) ∧ Inv w0 Z w' A) := by
 have e4 := calls_intro (R := (fun e w' => e = .returned (.bool r) ∧ Inv w0 Z w' A)) (w := w) (args := [.string a0]) (fn := Go.Proofs.Tryz.f4) 39 Go.Proofs.Tryz.func4 (by rfl) Go.Proofs.Tryz.ntmps4 (by kernel_rfl)
 refine e4 ?_
 clear e4
 unfold law11_BundleGets at h0
 refine cQ (cR [0] ?_)
 refine oP (r := []) [0] (S' := [(0, .string a0)]) ?_
 refine oD (qT (cQ (cR [0, 1] ?_)))
 obtain ⟨y2, hc1, h0⟩ := bindS h0
 try dsimp only at h0
 refine oC (jC (d := some 9) (n := 6) (vs := []) (by kernel_rfl) en6 (c6 w0 w _ _ hI hT _ hc1) ?_)
 rintro e w ⟨rfl, hI⟩
 refine ⟨_, rfl, ?_⟩
 refine oP (r := []) [1] (S' := [(0, .string a0), (3, .bool y2)]) ?_
 refine oD (qT (cQ (cQ (cR [0, 1] ?_))))
 refine oP (r := []) [0, 1] (S' := [(0, .string a0), (3, .bool y2), (11, .bool (!y2))]) ?_
 refine oD (qT ?_)
 by_cases hb3 : (!y2) = true
 ·
  rw [if_pos hb3] at h0
  refine cY (b := !y2) hb3 ?_
  refine cQ (cR [0] ?_)
  refine oP (r := []) [0] (S' := [(2, .bool false)]) ?_
  refine oD (qT (jE (jR ?_)))
  have e := someS h0
  subst e
  refine qK [2] (S' := [(2, .bool false)]) ?_
  exact post_ret (v := .bool false) (fun a ha => jU (vs := [.bool false]) (.tmp (t := 2) (by kernel_rfl) .nil) ha (by kernel_rfl)) ⟨rfl, hI⟩
 ·
  rw [if_neg hb3] at h0
  refine cN (b := !y2) (by simpa using hb3) ?_
  refine jS (qT (cQ (cQ (cR [0, 1, 2] ?_))))
  refine oP (r := []) [0, 1, 2] (S' := [(0, .string a0), (3, .bool y2), (14, .bool (decide ((a0.size : Int) > 3000)))]) ?_
  refine oD (qT ?_)
  by_cases hb4 : (decide ((a0.size : Int) > 3000)) = true
  ·
   rw [if_pos hb4] at h0
   refine cY (b := decide ((a0.size : Int) > 3000)) hb4 ?_
   refine cQ (cR [0, 1] ?_)
   refine oP (r := []) [0, 1] (S' := [(2, .bool y2)]) ?_
   refine oD (qT (jE (jR ?_)))
   have e := someS h0
   subst e
   refine qK [2] (S' := [(2, .bool y2)]) ?_
   exact post_ret (v := .bool y2) (fun a ha => jU (vs := [.bool y2]) (.tmp (t := 2) (by kernel_rfl) .nil) ha (by kernel_rfl)) ⟨rfl, hI⟩
  ·
   rw [if_neg hb4] at h0
   refine cN (b := decide ((a0.size : Int) > 3000)) (by simpa using hb4) ?_
   refine jS (qT (cQ (cR [0, 1, 2, 3, 4, 5, 6, 7] ?_)))
   refine oP (r := [1, 2, 3, 4, 5, 6, 7]) [0] (S' := [(0, .string a0), (3, .bool y2), (17, .string a0)]) ?_
   obtain ⟨⟨y6, y7, y9, y12⟩, hc5, h0⟩ := bindS h0
   try dsimp only at h0
   refine oC (jC (d := some 18) (n := 16) (vs := [.string a0]) (by kernel_rfl) en16 (c16 w0 w _ _ hI hT a0 _ hc5) ?_)
   rintro e w ⟨A10, cp11, rfl, hl8, hI⟩
   refine ⟨_, rfl, ?_⟩
   refine oP (r := [5, 6, 7]) [2, 3, 4] (S' := [(0, .string a0), (3, .bool y2), (19, .agg ((([iv y6] : LV) ++ (q8c y7) ++ ([.slice A10 y9.length cp11] : LV))).toArray), (20, .bool y12)]) ?_
   refine oC (jA (d := 4) (T := 26) q8b (by kernel_rfl) ty26 hI (by kernel_rfl) ?_)
   intro b13 w hI
   refine oC (dS (T := 26) (b := b13) (o := 0) (v := .agg ((([iv y6] : LV) ++ (q8c y7) ++ ([.slice A10 y9.length cp11] : LV))).toArray) (l := q8b) (vs := (([iv y6] : LV) ++ (q8c y7) ++ ([.slice A10 y9.length cp11] : LV))) (L' := (([iv y6] : LV) ++ (q8c y7) ++ ([.slice A10 y9.length cp11] : LV))) (by kernel_rfl) ty26 hI (by kernel_rfl) (by simp [cA_length, hl8]) (by rw [show List.length _ = 34 from (by simp [cA_length])]; kernel_rfl) (ones_app _ _ (ones_app _ _ (by kernel_rfl) (ones_cA _)) (by kernel_rfl)) (lset_all _ _ (Eq.trans (show List.length _ = 34 from (by simp [cA_length, hl8])) (Eq.symm (show List.length _ = 34 from (by simp [cA_length]))))) ?_)
   intro w hI
   refine oP (r := []) [7] (S' := [(0, .string a0), (3, .bool y2), (4, pb b13), (5, .bool y12)]) ?_
   refine oD (qT (cQ (cR [0, 1, 2, 3, 4, 5, 6, 7] ?_)))
   refine oP (r := [1, 2, 3, 4, 5, 6, 7]) [0] (S' := [(3, .bool y2), (4, pb b13), (5, .bool y12), (22, .string a0)]) ?_
   obtain ⟨⟨y15, y16, y18, y22⟩, hc14, h0⟩ := bindS h0
   try dsimp only at h0
   refine oC (jC (d := some 23) (n := 17) (vs := [.string a0]) (by kernel_rfl) en17 (c17 w0 w _ _ hI hT a0 _ hc14) ?_)
   rintro e w ⟨A19, cp20, Z23, hle24, rfl, hl17, hr21, hI⟩
   refine ⟨_, rfl, ?_⟩
   refine oP (r := [5, 6, 7]) [2, 3, 4] (S' := [(3, .bool y2), (4, pb b13), (5, .bool y12), (24, .agg ((([iv y15] : LV) ++ (q8c y16) ++ ([.slice A19 y18.length cp20] : LV))).toArray), (25, .bool y22)]) ?_
   refine oC (jA (d := 6) (T := 32) q8b (by kernel_rfl) ty32 hI (by kernel_rfl) ?_)
   intro b25 w hI
   refine oC (dS (T := 32) (b := b25) (o := 0) (v := .agg ((([iv y15] : LV) ++ (q8c y16) ++ ([.slice A19 y18.length cp20] : LV))).toArray) (l := q8b) (vs := (([iv y15] : LV) ++ (q8c y16) ++ ([.slice A19 y18.length cp20] : LV))) (L' := (([iv y15] : LV) ++ (q8c y16) ++ ([.slice A19 y18.length cp20] : LV))) (by kernel_rfl) ty32 hI (by kernel_rfl) (by simp [cA_length, hl17]) (by rw [show List.length _ = 34 from (by simp [cA_length])]; kernel_rfl) (ones_app _ _ (ones_app _ _ (by kernel_rfl) (ones_cA _)) (by kernel_rfl)) (lset_all _ _ (Eq.trans (show List.length _ = 34 from (by simp [cA_length, hl17])) (Eq.symm (show List.length _ = 34 from (by simp [cA_length]))))) ?_)
   intro w hI
   refine oP (r := []) [7] (S' := [(3, .bool y2), (4, pb b13), (5, .bool y12), (6, pb b25), (7, .bool y22)]) ?_
   refine oD (qT (cQ ?_))
   have hI := hI.mono (pick3 _ _ _ _)
   obtain ⟨Z26, hle27, hr28, hI⟩ := ownS_freeze hI
   refine CodT.drawI (n := 5) [] (by kernel_rfl) (by kernel_rfl) hI ?_
   intro w hI
   refine gR (i := 0) 2 (jL (d := 26) (T := 26) (v := .agg ((([iv y6] : LV) ++ (q8c y7) ++ ([.slice A10 y9.length cp11] : LV))).toArray) (by kernel_rfl) (ldBN ty26 (l := (([iv y6] : LV) ++ (q8c y7) ++ ([.slice A10 y9.length cp11] : LV))) (o := 0) (cs := (([iv y6] : LV) ++ (q8c y7) ++ ([.slice A10 y9.length cp11] : LV))) (pick2 _ _ _) (by simp [cA_length, hl8]) (whole _ _ (by simp [cA_length, hl8])))) hI ?_
   refine gR (i := 2) 2 (jL (d := 28) (T := 32) (v := .agg ((([iv y15] : LV) ++ (q8c y16) ++ ([.slice A19 y18.length cp20] : LV))).toArray) (by kernel_rfl) (ldBN ty32 (l := (([iv y15] : LV) ++ (q8c y16) ++ ([.slice A19 y18.length cp20] : LV))) (o := 0) (cs := (([iv y15] : LV) ++ (q8c y16) ++ ([.slice A19 y18.length cp20] : LV))) (ent_refl _) (by simp [cA_length, hl17]) (whole _ _ (by simp [cA_length, hl17])))) hI ?_
   obtain ⟨⟨y30, y31, y33⟩, hc29, h0⟩ := bindS h0
   try dsimp only at h0
   refine jO (i := 1) (by kernel_rfl) (jC (d := some 27) (n := 10) (vs := [.agg ((([iv y6] : LV) ++ (q8c y7) ++ ([.slice A10 y9.length cp11] : LV))).toArray]) (by kernel_rfl) en10 (c10 w0 w _ _ hI (hT.mono (Hp.le_trans hle24 hle27)) y6 y7 hl8 A10 cp11 y9 hr28 _ hc29) ?_)
   rintro e w ⟨A34, cp35, Z37, hle38, rfl, hl32, hr36, hI⟩
   refine ⟨_, rfl, ?_⟩
   have hC := hI
   have hC := hC.weaken hle38
   refine ⟨fun _ _ => hC, ?_⟩
   obtain ⟨y40, hc39, h0⟩ := bindS h0
   try dsimp only at h0
   refine jO (i := 3) (by kernel_rfl) (jC (d := some 29) (n := 11) (vs := [.agg ((([iv y30] : LV) ++ (q8c y31) ++ ([.slice A34 y33.length cp35] : LV))).toArray, .agg ((([iv y15] : LV) ++ (q8c y16) ++ ([.slice A19 y18.length cp20] : LV))).toArray]) (by kernel_rfl) en11 (c11 w0 w _ _ hI (hT.mono (Hp.le_trans (Hp.le_trans hle24 hle27) hle38)) y30 y31 hl32 A34 cp35 y33 hr36 y15 y16 hl17 A19 cp20 y18 (hr21.mono (Hp.le_trans hle27 hle38)) _ hc39) ?_)
   rintro e w ⟨rfl, hI⟩
   refine ⟨_, rfl, ?_⟩
   have hC := hI
   have hC := hC.weaken hle38
   refine ⟨fun _ _ => hC, ?_⟩
   refine gP 4 8 (.bool y40) ?_
   refine jD (by kernel_rfl) ?_
   refine qT ?_
   obtain ⟨r1, h1, h0⟩ := bindS h0
   refine jM (fun a w => ∃ (x41 : Bool), x41 = r1 ∧ Fr 39 [(2, .bool x41)] a ∧ Inv w0 Z37 w A) ?_ ?_
   ·
    refine cR [0, 1, 2, 3, 4, 5, 6, 7, 8, 9] ?_
    refine oP (r := [2, 3, 4, 5, 6, 7, 8, 9]) [0, 1] (S' := [(5, .bool y12), (7, .bool y22), (8, .bool y40), (31, .bool y2)]) ?_
    by_cases hb42 : y2 = true
    ·
     rw [if_pos hb42] at h1
     refine OpsT.keep [5, 7, 8, 31] (S' := [(5, .bool y12), (7, .bool y22), (8, .bool y40), (31, .bool true)]) (by (try simp only [hb42]); kernel_rfl) ?_
     refine oP (r := [5, 6, 7, 8, 9]) [2, 3, 4] (S' := [(5, .bool y12), (7, .bool y22), (34, .bool y40)]) ?_
     by_cases hb43 : y40 = true
     ·
      rw [if_pos hb43] at h1
      refine OpsT.keep [5, 7, 34] (S' := [(5, .bool y12), (7, .bool y22), (34, .bool true)]) (by (try simp only [hb43]); kernel_rfl) ?_
      refine oP (r := []) [5, 6, 7, 8, 9] (S' := [(2, .bool (y12 == y22))]) ?_
      refine oD ?_
      have hI := hI.drop
      have hI := hI.drop
      have e := someS h1
      subst e
      exact jT fun a ha => ⟨y12 == y22, rfl, ha.keep [2] (by kernel_rfl), hI⟩
     ·
      rw [if_neg hb43] at h1
      have hb43 : y40 = false := by simpa using hb43
      refine OpsT.keep [5, 7, 34] (S' := [(5, .bool y12), (7, .bool y22), (34, .bool false)]) (by (try simp only [hb43]); kernel_rfl) ?_
      refine oP (r := []) [5, 6, 7, 8, 9] (S' := [(2, .bool false)]) ?_
      refine oD ?_
      have hI := hI.drop
      have hI := hI.drop
      have e := someS h1
      subst e
      exact jT fun a ha => ⟨false, rfl, ha.keep [2] (by kernel_rfl), hI⟩
    ·
     rw [if_neg hb42] at h1
     have hb42 : y2 = false := by simpa using hb42
     refine OpsT.keep [5, 7, 8, 31] (S' := [(5, .bool y12), (7, .bool y22), (8, .bool y40), (31, .bool false)]) (by (try simp only [hb42]); kernel_rfl) ?_
     refine oP (r := []) [2, 3, 4, 5, 6, 7, 8, 9] (S' := [(2, .bool false)]) ?_
     refine oD ?_
     have hI := hI.drop
     have hI := hI.drop
     have e := someS h1
     subst e
     exact jT fun a ha => ⟨false, rfl, ha.keep [2] (by kernel_rfl), hI⟩
   ·
    rintro a w ⟨x41, rfl, ha, hI⟩
    try dsimp only at h0
    refine CodT.of ?_ ha
    refine jE ?_
    have e := someS h0
    subst e
    refine qK [2] (S' := [(2, .bool x41)]) ?_
    exact post_ret (v := .bool x41) (fun a ha => jU (vs := [.bool x41]) (.tmp (t := 2) (by kernel_rfl) .nil) ha (by kernel_rfl)) ⟨rfl, hI.weaken (Hp.le_trans (Hp.le_trans hle24 hle27) hle38)⟩
end Go.Cen
