/- The walk of the law BundleExports, printed by a program of ours. -/
import Derived.Test.YtlojedndicppeaaGreatDoorWx7
set_option linter.unusedVariables false
set_option linter.unusedSimpArgs false
namespace Go.Cen
set_option maxRecDepth 100000
set_option maxHeartbeats 4000000
/-- cenotaph/cenotaphlaw11.BundleExports -/
theorem c5 (w0 w : World) (Z : Hp) (A : HP) (hI : Inv w0 Z w A) (hT : Tabs Z) (A_a0 : Option Addr) (c_a0 : Nat) (a0 : (List ApiEvent)) (hr_a0 : RdS Z c_ApiEvent 37 A_a0 c_a0 a0) (a1 : Int) (a2 : Int) (r : Bool) (h0 : law11_BundleExports a0 a1 a2 = some r) :
  Calls prog 5 #[.slice A_a0 a0.length c_a0, iv a1, iv a2] w (fun e w' => e = .returned (.bool r) ∧ Inv w0 Z w' A) := by
 have e4 := calls_intro (R := (fun e w' => e = .returned (.bool r) ∧ Inv w0 Z w' A)) (w := w) (args := [.slice A_a0 a0.length c_a0, iv a1, iv a2]) (fn := Go.Proofs.Tryz.f5) 49 Go.Proofs.Tryz.func5 (by rfl) Go.Proofs.Tryz.ntmps5 (by kernel_rfl)
 refine e4 ?_
 clear e4
 unfold law11_BundleExports at h0
 refine cQ (cR [0] ?_)
 refine oP (r := []) [0] (S' := [(0, .slice A_a0 a0.length c_a0), (1, iv a1), (2, iv a2)]) ?_
 refine oD (qT (cQ (cR [0, 1] ?_)))
 obtain ⟨y2, hc1, h0⟩ := bindS h0
 try dsimp only at h0
 refine oC (jC (d := some 14) (n := 6) (vs := []) (by kernel_rfl) en6 (c6 w0 w _ _ hI hT _ hc1) ?_)
 rintro e w ⟨rfl, hI⟩
 refine ⟨_, rfl, ?_⟩
 refine oP (r := []) [1] (S' := [(0, .slice A_a0 a0.length c_a0), (1, iv a1), (2, iv a2), (7, .bool y2)]) ?_
 refine oD (qT (cQ (cQ (cR [0, 1] ?_))))
 refine oP (r := []) [0, 1] (S' := [(0, .slice A_a0 a0.length c_a0), (1, iv a1), (2, iv a2), (7, .bool y2), (16, .bool (!y2))]) ?_
 refine oD (qT ?_)
 by_cases hb3 : (!y2) = true
 ·
  rw [if_pos hb3] at h0
  refine cY (b := !y2) hb3 ?_
  refine cQ (cR [0] ?_)
  refine oP (r := []) [0] (S' := [(6, .bool false)]) ?_
  refine oD (qT (jE (jR ?_)))
  have e := someS h0
  subst e
  refine qK [6] (S' := [(6, .bool false)]) ?_
  exact post_ret (v := .bool false) (fun a ha => jU (vs := [.bool false]) (.tmp (t := 6) (by kernel_rfl) .nil) ha (by kernel_rfl)) ⟨rfl, hI⟩
 ·
  rw [if_neg hb3] at h0
  refine cN (b := !y2) (by simpa using hb3) ?_
  refine jS (qT (cQ (cR [0, 1, 2] ?_)))
  refine oP (r := [1, 2]) [0] (S' := [(0, .slice A_a0 a0.length c_a0), (1, iv a1), (2, iv a2), (7, .bool y2), (17, .slice A_a0 a0.length c_a0)]) ?_
  obtain ⟨y5, hc4, h0⟩ := bindS h0
  try dsimp only at h0
  refine oC (jC (d := some 18) (n := 7) (vs := [.slice A_a0 a0.length c_a0]) (by kernel_rfl) en7 (c7 w0 w _ _ hI hT A_a0 c_a0 a0 hr_a0 _ hc4) ?_)
  rintro e w ⟨rfl, hI⟩
  refine ⟨_, rfl, ?_⟩
  refine oP (r := []) [2] (S' := [(0, .slice A_a0 a0.length c_a0), (1, iv a1), (2, iv a2), (7, .bool y2), (8, .bool y5)]) ?_
  refine oD (qT (cQ (cQ (cR [0, 1] ?_))))
  refine oP (r := []) [0, 1] (S' := [(0, .slice A_a0 a0.length c_a0), (1, iv a1), (2, iv a2), (7, .bool y2), (20, .bool (!y5))]) ?_
  refine oD (qT ?_)
  by_cases hb6 : (!y5) = true
  ·
   rw [if_pos hb6] at h0
   refine cY (b := !y5) hb6 ?_
   refine cQ (cR [0, 1] ?_)
   refine oP (r := []) [0, 1] (S' := [(6, .bool y2)]) ?_
   refine oD (qT (jE (jR ?_)))
   have e := someS h0
   subst e
   refine qK [6] (S' := [(6, .bool y2)]) ?_
   exact post_ret (v := .bool y2) (fun a ha => jU (vs := [.bool y2]) (.tmp (t := 6) (by kernel_rfl) .nil) ha (by kernel_rfl)) ⟨rfl, hI⟩
  ·
   rw [if_neg hb6] at h0
   refine cN (b := !y5) (by simpa using hb6) ?_
   refine jS (qT (cQ (cR [0, 1, 2, 3, 4, 5, 6, 7, 8, 9] ?_)))
   refine oP (r := [3, 4, 5, 6, 7, 8, 9]) [0, 1, 2] (S' := [(0, .slice A_a0 a0.length c_a0), (1, iv a1), (2, iv a2), (7, .bool y2), (23, .slice A_a0 a0.length c_a0), (24, iv a1), (25, iv a2)]) ?_
   obtain ⟨⟨y8, y9, y11, y14⟩, hc7, h0⟩ := bindS h0
   try dsimp only at h0
   refine oC (jC (d := some 26) (n := 18) (vs := [.slice A_a0 a0.length c_a0, iv a1, iv a2]) (by kernel_rfl) en18 (c18 w0 w _ _ hI hT A_a0 c_a0 a0 hr_a0 a1 a2 _ hc7) ?_)
   rintro e w ⟨A12, cp13, rfl, hl10, hI⟩
   refine ⟨_, rfl, ?_⟩
   refine oP (r := [7, 8, 9]) [4, 5, 6] (S' := [(0, .slice A_a0 a0.length c_a0), (1, iv a1), (2, iv a2), (7, .bool y2), (27, .agg ((([iv y8] : LV) ++ (q8c y9) ++ ([.slice A12 y11.length cp13] : LV))).toArray), (28, .bool y14)]) ?_
   refine oC (jA (d := 9) (T := 26) q8b (by kernel_rfl) ty26 hI (by kernel_rfl) ?_)
   intro b15 w hI
   refine oC (dS (T := 26) (b := b15) (o := 0) (v := .agg ((([iv y8] : LV) ++ (q8c y9) ++ ([.slice A12 y11.length cp13] : LV))).toArray) (l := q8b) (vs := (([iv y8] : LV) ++ (q8c y9) ++ ([.slice A12 y11.length cp13] : LV))) (L' := (([iv y8] : LV) ++ (q8c y9) ++ ([.slice A12 y11.length cp13] : LV))) (by kernel_rfl) ty26 hI (by kernel_rfl) (by simp [cA_length, hl10]) (by rw [show List.length _ = 34 from (by simp [cA_length])]; kernel_rfl) (ones_app _ _ (ones_app _ _ (by kernel_rfl) (ones_cA _)) (by kernel_rfl)) (lset_all _ _ (Eq.trans (show List.length _ = 34 from (by simp [cA_length, hl10])) (Eq.symm (show List.length _ = 34 from (by simp [cA_length]))))) ?_)
   intro w hI
   refine oP (r := []) [9] (S' := [(0, .slice A_a0 a0.length c_a0), (1, iv a1), (2, iv a2), (7, .bool y2), (9, pb b15), (10, .bool y14)]) ?_
   refine oD (qT (cQ (cR [0, 1, 2, 3, 4, 5, 6, 7, 8, 9] ?_)))
   refine oP (r := [3, 4, 5, 6, 7, 8, 9]) [0, 1, 2] (S' := [(7, .bool y2), (9, pb b15), (10, .bool y14), (30, .slice A_a0 a0.length c_a0), (31, iv a1), (32, iv a2)]) ?_
   obtain ⟨⟨y17, y18, y20, y24⟩, hc16, h0⟩ := bindS h0
   try dsimp only at h0
   refine oC (jC (d := some 33) (n := 19) (vs := [.slice A_a0 a0.length c_a0, iv a1, iv a2]) (by kernel_rfl) en19 (c19 w0 w _ _ hI hT A_a0 c_a0 a0 hr_a0 a1 a2 _ hc16) ?_)
   rintro e w ⟨A21, cp22, Z25, hle26, rfl, hl19, hr23, hI⟩
   refine ⟨_, rfl, ?_⟩
   refine oP (r := [7, 8, 9]) [4, 5, 6] (S' := [(7, .bool y2), (9, pb b15), (10, .bool y14), (34, .agg ((([iv y17] : LV) ++ (q8c y18) ++ ([.slice A21 y20.length cp22] : LV))).toArray), (35, .bool y24)]) ?_
   refine oC (jA (d := 11) (T := 32) q8b (by kernel_rfl) ty32 hI (by kernel_rfl) ?_)
   intro b27 w hI
   refine oC (dS (T := 32) (b := b27) (o := 0) (v := .agg ((([iv y17] : LV) ++ (q8c y18) ++ ([.slice A21 y20.length cp22] : LV))).toArray) (l := q8b) (vs := (([iv y17] : LV) ++ (q8c y18) ++ ([.slice A21 y20.length cp22] : LV))) (L' := (([iv y17] : LV) ++ (q8c y18) ++ ([.slice A21 y20.length cp22] : LV))) (by kernel_rfl) ty32 hI (by kernel_rfl) (by simp [cA_length, hl19]) (by rw [show List.length _ = 34 from (by simp [cA_length])]; kernel_rfl) (ones_app _ _ (ones_app _ _ (by kernel_rfl) (ones_cA _)) (by kernel_rfl)) (lset_all _ _ (Eq.trans (show List.length _ = 34 from (by simp [cA_length, hl19])) (Eq.symm (show List.length _ = 34 from (by simp [cA_length]))))) ?_)
   intro w hI
   refine oP (r := []) [9] (S' := [(7, .bool y2), (9, pb b15), (10, .bool y14), (11, pb b27), (12, .bool y24)]) ?_
   refine oD (qT (cQ ?_))
   have hI := hI.mono (pick3 _ _ _ _)
   obtain ⟨Z28, hle29, hr30, hI⟩ := ownS_freeze hI
   refine CodT.drawI (n := 5) [] (by kernel_rfl) (by kernel_rfl) hI ?_
   intro w hI
   refine gR (i := 0) 2 (jL (d := 36) (T := 26) (v := .agg ((([iv y8] : LV) ++ (q8c y9) ++ ([.slice A12 y11.length cp13] : LV))).toArray) (by kernel_rfl) (ldBN ty26 (l := (([iv y8] : LV) ++ (q8c y9) ++ ([.slice A12 y11.length cp13] : LV))) (o := 0) (cs := (([iv y8] : LV) ++ (q8c y9) ++ ([.slice A12 y11.length cp13] : LV))) (pick2 _ _ _) (by simp [cA_length, hl10]) (whole _ _ (by simp [cA_length, hl10])))) hI ?_
   refine gR (i := 2) 2 (jL (d := 38) (T := 32) (v := .agg ((([iv y17] : LV) ++ (q8c y18) ++ ([.slice A21 y20.length cp22] : LV))).toArray) (by kernel_rfl) (ldBN ty32 (l := (([iv y17] : LV) ++ (q8c y18) ++ ([.slice A21 y20.length cp22] : LV))) (o := 0) (cs := (([iv y17] : LV) ++ (q8c y18) ++ ([.slice A21 y20.length cp22] : LV))) (ent_refl _) (by simp [cA_length, hl19]) (whole _ _ (by simp [cA_length, hl19])))) hI ?_
   obtain ⟨⟨y32, y33, y35⟩, hc31, h0⟩ := bindS h0
   try dsimp only at h0
   refine jO (i := 1) (by kernel_rfl) (jC (d := some 37) (n := 10) (vs := [.agg ((([iv y8] : LV) ++ (q8c y9) ++ ([.slice A12 y11.length cp13] : LV))).toArray]) (by kernel_rfl) en10 (c10 w0 w _ _ hI (hT.mono (Hp.le_trans hle26 hle29)) y8 y9 hl10 A12 cp13 y11 hr30 _ hc31) ?_)
   rintro e w ⟨A36, cp37, Z39, hle40, rfl, hl34, hr38, hI⟩
   refine ⟨_, rfl, ?_⟩
   have hC := hI
   have hC := hC.weaken hle40
   refine ⟨fun _ _ => hC, ?_⟩
   obtain ⟨y42, hc41, h0⟩ := bindS h0
   try dsimp only at h0
   refine jO (i := 3) (by kernel_rfl) (jC (d := some 39) (n := 11) (vs := [.agg ((([iv y32] : LV) ++ (q8c y33) ++ ([.slice A36 y35.length cp37] : LV))).toArray, .agg ((([iv y17] : LV) ++ (q8c y18) ++ ([.slice A21 y20.length cp22] : LV))).toArray]) (by kernel_rfl) en11 (c11 w0 w _ _ hI (hT.mono (Hp.le_trans (Hp.le_trans hle26 hle29) hle40)) y32 y33 hl34 A36 cp37 y35 hr38 y17 y18 hl19 A21 cp22 y20 (hr23.mono (Hp.le_trans hle29 hle40)) _ hc41) ?_)
   rintro e w ⟨rfl, hI⟩
   refine ⟨_, rfl, ?_⟩
   have hC := hI
   have hC := hC.weaken hle40
   refine ⟨fun _ _ => hC, ?_⟩
   refine gP 4 13 (.bool y42) ?_
   refine jD (by kernel_rfl) ?_
   refine qT ?_
   obtain ⟨r1, h1, h0⟩ := bindS h0
   refine jM (fun a w => ∃ (x43 : Bool), x43 = r1 ∧ Fr 49 [(6, .bool x43)] a ∧ Inv w0 Z39 w A) ?_ ?_
   ·
    refine cR [0, 1, 2, 3, 4, 5, 6, 7, 8, 9] ?_
    refine oP (r := [2, 3, 4, 5, 6, 7, 8, 9]) [0, 1] (S' := [(10, .bool y14), (12, .bool y24), (13, .bool y42), (41, .bool y2)]) ?_
    by_cases hb44 : y2 = true
    ·
     rw [if_pos hb44] at h1
     refine OpsT.keep [10, 12, 13, 41] (S' := [(10, .bool y14), (12, .bool y24), (13, .bool y42), (41, .bool true)]) (by (try simp only [hb44]); kernel_rfl) ?_
     refine oP (r := [5, 6, 7, 8, 9]) [2, 3, 4] (S' := [(10, .bool y14), (12, .bool y24), (44, .bool y42)]) ?_
     by_cases hb45 : y42 = true
     ·
      rw [if_pos hb45] at h1
      refine OpsT.keep [10, 12, 44] (S' := [(10, .bool y14), (12, .bool y24), (44, .bool true)]) (by (try simp only [hb45]); kernel_rfl) ?_
      refine oP (r := []) [5, 6, 7, 8, 9] (S' := [(6, .bool (y14 == y24))]) ?_
      refine oD ?_
      have hI := hI.drop
      have hI := hI.drop
      have e := someS h1
      subst e
      exact jT fun a ha => ⟨y14 == y24, rfl, ha.keep [6] (by kernel_rfl), hI⟩
     ·
      rw [if_neg hb45] at h1
      have hb45 : y42 = false := by simpa using hb45
      refine OpsT.keep [10, 12, 44] (S' := [(10, .bool y14), (12, .bool y24), (44, .bool false)]) (by (try simp only [hb45]); kernel_rfl) ?_
      refine oP (r := []) [5, 6, 7, 8, 9] (S' := [(6, .bool false)]) ?_
      refine oD ?_
      have hI := hI.drop
      have hI := hI.drop
      have e := someS h1
      subst e
      exact jT fun a ha => ⟨false, rfl, ha.keep [6] (by kernel_rfl), hI⟩
    ·
     rw [if_neg hb44] at h1
     have hb44 : y2 = false := by simpa using hb44
     refine OpsT.keep [10, 12, 13, 41] (S' := [(10, .bool y14), (12, .bool y24), (13, .bool y42), (41, .bool false)]) (by (try simp only [hb44]); kernel_rfl) ?_
     refine oP (r := []) [2, 3, 4, 5, 6, 7, 8, 9] (S' := [(6, .bool false)]) ?_
     refine oD ?_
     have hI := hI.drop
     have hI := hI.drop
     have e := someS h1
     subst e
     exact jT fun a ha => ⟨false, rfl, ha.keep [6] (by kernel_rfl), hI⟩
   ·
    rintro a w ⟨x43, rfl, ha, hI⟩
    try dsimp only at h0
    refine CodT.of ?_ ha
    refine jE ?_
    have e := someS h0
    subst e
    refine qK [6] (S' := [(6, .bool x43)]) ?_
    exact post_ret (v := .bool x43) (fun a ha => jU (vs := [.bool x43]) (.tmp (t := 6) (by kernel_rfl) .nil) ha (by kernel_rfl)) ⟨rfl, hI.weaken (Hp.le_trans (Hp.le_trans hle26 hle29) hle40)⟩
end Go.Cen
