/- The walk of the law BundleJoins, printed by a program of ours. -/
import Derived.Test.YtlojedndicppeaaDoorWx3
set_option linter.unusedVariables false
set_option linter.unusedSimpArgs false
namespace Go.Cen
set_option maxRecDepth 100000
set_option maxHeartbeats 4000000
/-- cenotaph/cenotaphlaw11.BundleJoins -/
theorem c6 (w0 w : World) (Z : Hp) (A : HP) (hI : Inv w0 Z w A) (hT : Tabs Z) (A_a0 : Option Addr) (c_a0 : Nat) (a0 : (List ApiEvent)) (hr_a0 : RdS Z c_ApiEvent 37 A_a0 c_a0 a0) (a1 : Int) (a2 : Int) (a3 : Int) (r : Bool) (h0 : law11_BundleJoins a0 a1 a2 a3 = some r) :
  Calls prog 6 #[.slice A_a0 a0.length c_a0, iv a1, iv a2, iv a3] w (fun e w' => e = .returned (.bool r) ∧ Inv w0 Z w' A) := by
 have e4 := calls_intro (R := (fun e w' => e = .returned (.bool r) ∧ Inv w0 Z w' A)) (w := w) (args := [.slice A_a0 a0.length c_a0, iv a1, iv a2, iv a3]) (fn := Go.Proofs.Tryd.f6) 143 Go.Proofs.Tryd.func6 (by rfl) Go.Proofs.Tryd.ntmps6 (by kernel_rfl)
 refine e4 ?_
 clear e4
 unfold law11_BundleJoins at h0
 refine cQ ?_
 refine cR [0] (by kernel_rfl) ?_
 refine oP (r := []) [0] (S' := [(0, .slice A_a0 a0.length c_a0), (1, iv a1), (2, iv a2), (3, iv a3)]) (by kernel_rfl) ?_
 refine oD ?_
 refine qT ?_
 refine cQ ?_
 refine cR [0, 1] (by kernel_rfl) ?_
 obtain ⟨y2, hc1, h0⟩ := bindS h0
 try dsimp only at h0
 refine oC (Does.call (d := some 20) (n := 7) (vs := []) (by kernel_rfl) en7 (c7 w0 w _ _ hI hT _ hc1) ?_)
 rintro e w ⟨rfl, hI⟩
 refine ⟨_, rfl, ?_⟩
 refine oP (r := []) [1] (S' := [(0, .slice A_a0 a0.length c_a0), (1, iv a1), (2, iv a2), (3, iv a3), (9, .bool y2)]) (by kernel_rfl) ?_
 refine oD ?_
 refine qT ?_
 refine cQ ?_
 refine cQ ?_
 refine cR [0, 1] (by kernel_rfl) ?_
 refine oP (r := []) [0, 1] (S' := [(0, .slice A_a0 a0.length c_a0), (1, iv a1), (2, iv a2), (3, iv a3), (9, .bool y2), (22, .bool (!y2))]) (by kernel_rfl) ?_
 refine oD ?_
 refine qT ?_
 by_cases hb3 : (!y2) = true
 ·
  rw [if_pos hb3] at h0
  refine CodT.yes' (b := !y2) (by kernel_rfl) hb3 ?_
  refine cQ ?_
  refine cR [0] (by kernel_rfl) ?_
  refine oP (r := []) [0] (S' := [(8, .bool false)]) (by kernel_rfl) ?_
  refine oD ?_
  refine qT ?_
  refine CodT.ret ?_
  refine Qn.ret_then ?_
  have e := someS h0
  subst e
  refine qK [8] (S' := [(8, .bool false)]) (by kernel_rfl) ?_
  exact post_ret (v := .bool false) (fun a ha => RunRes.run (vs := [.bool false]) (.tmp (t := 8) (by kernel_rfl) .nil) ha (by kernel_rfl)) ⟨rfl, hI⟩
 ·
  rw [if_neg hb3] at h0
  refine CodT.no' (b := !y2) (by kernel_rfl) (by simpa using hb3) ?_
  refine CodT.skip ?_
  refine qT ?_
  refine cQ ?_
  refine cR [0, 1, 2] (by kernel_rfl) ?_
  refine oP (r := [1, 2]) [0] (S' := [(0, .slice A_a0 a0.length c_a0), (1, iv a1), (2, iv a2), (3, iv a3), (9, .bool y2), (23, .slice A_a0 a0.length c_a0)]) (by kernel_rfl) ?_
  obtain ⟨y5, hc4, h0⟩ := bindS h0
  try dsimp only at h0
  refine oC (Does.call (d := some 24) (n := 8) (vs := [.slice A_a0 a0.length c_a0]) (by kernel_rfl) en8 (c8 w0 w _ _ hI hT A_a0 c_a0 a0 hr_a0 _ hc4) ?_)
  rintro e w ⟨rfl, hI⟩
  refine ⟨_, rfl, ?_⟩
  refine oP (r := []) [2] (S' := [(0, .slice A_a0 a0.length c_a0), (1, iv a1), (2, iv a2), (3, iv a3), (9, .bool y2), (10, .bool y5)]) (by kernel_rfl) ?_
  refine oD ?_
  refine qT ?_
  refine cQ ?_
  obtain ⟨r1, h1, h0⟩ := bindS h0
  refine CodT.meet (fun a w => ∃ (x6 : Bool), x6 = r1 ∧ Fr 143 [(0, .slice A_a0 a0.length c_a0), (1, iv a1), (2, iv a2), (3, iv a3), (9, .bool y2), (46, .bool x6)] a ∧ Inv w0 Z w A) ?_ ?_
  ·
   refine cR [0, 1, 2, 3, 4, 5, 6, 7, 8, 9, 10, 11, 12, 13, 14, 15, 16, 17, 18, 19, 20, 21] (by kernel_rfl) ?_
   refine oP (r := [3, 4, 5, 6, 7, 8, 9, 10, 11, 12, 13, 14, 15, 16, 17, 18, 19, 20, 21]) [0, 1, 2] (S' := [(0, .slice A_a0 a0.length c_a0), (1, iv a1), (2, iv a2), (3, iv a3), (9, .bool y2), (27, .bool (!y5))]) (by kernel_rfl) ?_
   by_cases hb7 : (!y5) = true
   ·
    rw [if_pos hb7] at h1
    refine oK [0, 1, 2, 3, 9, 27] (S' := [(0, .slice A_a0 a0.length c_a0), (1, iv a1), (2, iv a2), (3, iv a3), (9, .bool y2), (27, .bool true)]) (by (try simp only [hb7]); kernel_rfl) ?_
    refine oP (r := []) [3, 4, 5, 6, 7, 8, 9, 10, 11, 12, 13, 14, 15, 16, 17, 18, 19, 20, 21] (S' := [(0, .slice A_a0 a0.length c_a0), (1, iv a1), (2, iv a2), (3, iv a3), (9, .bool y2), (46, .bool true)]) (by kernel_rfl) ?_
    refine oD ?_
    have e := someS h1
    subst e
    exact Qn.thenJ fun a ha => ⟨true, rfl, ha.keep [0, 1, 2, 3, 9, 46] (by kernel_rfl), hI⟩
   ·
    rw [if_neg hb7] at h1
    have hb7 : (!y5) = false := by simpa using hb7
    refine oK [0, 1, 2, 3, 9, 27] (S' := [(0, .slice A_a0 a0.length c_a0), (1, iv a1), (2, iv a2), (3, iv a3), (9, .bool y2), (27, .bool false)]) (by (try simp only [hb7]); kernel_rfl) ?_
    refine oP (r := [7, 8, 9, 10, 11, 12, 13, 14, 15, 16, 17, 18, 19, 20, 21]) [3, 4, 5, 6] (S' := [(0, .slice A_a0 a0.length c_a0), (1, iv a1), (2, iv a2), (3, iv a3), (9, .bool y2), (31, .bool (decide (a1 < 0)))]) (by kernel_rfl) ?_
    by_cases hb8 : (decide (a1 < 0)) = true
    ·
     rw [if_pos hb8] at h1
     refine oK [0, 1, 2, 3, 9, 31] (S' := [(0, .slice A_a0 a0.length c_a0), (1, iv a1), (2, iv a2), (3, iv a3), (9, .bool y2), (31, .bool true)]) (by (try simp only [hb8]); kernel_rfl) ?_
     refine oP (r := []) [7, 8, 9, 10, 11, 12, 13, 14, 15, 16, 17, 18, 19, 20, 21] (S' := [(0, .slice A_a0 a0.length c_a0), (1, iv a1), (2, iv a2), (3, iv a3), (9, .bool y2), (46, .bool true)]) (by kernel_rfl) ?_
     refine oD ?_
     have e := someS h1
     subst e
     exact Qn.thenJ fun a ha => ⟨true, rfl, ha.keep [0, 1, 2, 3, 9, 46] (by kernel_rfl), hI⟩
    ·
     rw [if_neg hb8] at h1
     have hb8 : (decide (a1 < 0)) = false := by simpa using hb8
     refine oK [0, 1, 2, 3, 9, 31] (S' := [(0, .slice A_a0 a0.length c_a0), (1, iv a1), (2, iv a2), (3, iv a3), (9, .bool y2), (31, .bool false)]) (by (try simp only [hb8]); kernel_rfl) ?_
     refine oP (r := [12, 13, 14, 15, 16, 17, 18, 19, 20, 21]) [7, 8, 9, 10, 11] (S' := [(0, .slice A_a0 a0.length c_a0), (1, iv a1), (2, iv a2), (3, iv a3), (9, .bool y2), (36, .bool (decide (a2 < a1)))]) (by kernel_rfl) ?_
     by_cases hb9 : (decide (a2 < a1)) = true
     ·
      rw [if_pos hb9] at h1
      refine oK [0, 1, 2, 3, 9, 36] (S' := [(0, .slice A_a0 a0.length c_a0), (1, iv a1), (2, iv a2), (3, iv a3), (9, .bool y2), (36, .bool true)]) (by (try simp only [hb9]); kernel_rfl) ?_
      refine oP (r := []) [12, 13, 14, 15, 16, 17, 18, 19, 20, 21] (S' := [(0, .slice A_a0 a0.length c_a0), (1, iv a1), (2, iv a2), (3, iv a3), (9, .bool y2), (46, .bool true)]) (by kernel_rfl) ?_
      refine oD ?_
      have e := someS h1
      subst e
      exact Qn.thenJ fun a ha => ⟨true, rfl, ha.keep [0, 1, 2, 3, 9, 46] (by kernel_rfl), hI⟩
     ·
      rw [if_neg hb9] at h1
      have hb9 : (decide (a2 < a1)) = false := by simpa using hb9
      refine oK [0, 1, 2, 3, 9, 36] (S' := [(0, .slice A_a0 a0.length c_a0), (1, iv a1), (2, iv a2), (3, iv a3), (9, .bool y2), (36, .bool false)]) (by (try simp only [hb9]); kernel_rfl) ?_
      refine oP (r := [17, 18, 19, 20, 21]) [12, 13, 14, 15, 16] (S' := [(0, .slice A_a0 a0.length c_a0), (1, iv a1), (2, iv a2), (3, iv a3), (9, .bool y2), (41, .bool (decide (a3 < a2)))]) (by kernel_rfl) ?_
      by_cases hb10 : (decide (a3 < a2)) = true
      ·
       rw [if_pos hb10] at h1
       refine oK [0, 1, 2, 3, 9, 41] (S' := [(0, .slice A_a0 a0.length c_a0), (1, iv a1), (2, iv a2), (3, iv a3), (9, .bool y2), (41, .bool true)]) (by (try simp only [hb10]); kernel_rfl) ?_
       refine oP (r := []) [17, 18, 19, 20, 21] (S' := [(0, .slice A_a0 a0.length c_a0), (1, iv a1), (2, iv a2), (3, iv a3), (9, .bool y2), (46, .bool true)]) (by kernel_rfl) ?_
       refine oD ?_
       have e := someS h1
       subst e
       exact Qn.thenJ fun a ha => ⟨true, rfl, ha.keep [0, 1, 2, 3, 9, 46] (by kernel_rfl), hI⟩
      ·
       rw [if_neg hb10] at h1
       have hb10 : (decide (a3 < a2)) = false := by simpa using hb10
       refine oK [0, 1, 2, 3, 9, 41] (S' := [(0, .slice A_a0 a0.length c_a0), (1, iv a1), (2, iv a2), (3, iv a3), (9, .bool y2), (41, .bool false)]) (by (try simp only [hb10]); kernel_rfl) ?_
       refine oP (r := []) [17, 18, 19, 20, 21] (S' := [(0, .slice A_a0 a0.length c_a0), (1, iv a1), (2, iv a2), (3, iv a3), (9, .bool y2), (46, .bool (decide (a3 > (a0.length : Int))))]) (by kernel_rfl) ?_
       refine oD ?_
       have e := someS h1
       subst e
       exact Qn.thenJ fun a ha => ⟨decide (a3 > (a0.length : Int)), rfl, ha.keep [0, 1, 2, 3, 9, 46] (by kernel_rfl), hI⟩
  ·
   rintro a w ⟨x6, rfl, ha, hI⟩
   try dsimp only at h0
   refine CodT.of ?_ ha
   by_cases hb11 : x6 = true
   ·
    rw [if_pos hb11] at h0
    refine CodT.yes' (b := x6) (by kernel_rfl) hb11 ?_
    refine cQ ?_
    refine cR [0, 1] (by kernel_rfl) ?_
    refine oP (r := []) [0, 1] (S' := [(8, .bool y2)]) (by kernel_rfl) ?_
    refine oD ?_
    refine qT ?_
    refine CodT.ret ?_
    refine Qn.ret_then ?_
    have e := someS h0
    subst e
    refine qK [8] (S' := [(8, .bool y2)]) (by kernel_rfl) ?_
    exact post_ret (v := .bool y2) (fun a ha => RunRes.run (vs := [.bool y2]) (.tmp (t := 8) (by kernel_rfl) .nil) ha (by kernel_rfl)) ⟨rfl, hI⟩
   ·
    rw [if_neg hb11] at h0
    refine CodT.no' (b := x6) (by kernel_rfl) (by simpa using hb11) ?_
    refine CodT.skip ?_
    refine qT ?_
    refine cQ ?_
    refine cR [0, 1, 2, 3, 4, 5, 6, 7, 8, 9] (by kernel_rfl) ?_
    refine oP (r := [3, 4, 5, 6, 7, 8, 9]) [0, 1, 2] (S' := [(0, .slice A_a0 a0.length c_a0), (1, iv a1), (2, iv a2), (3, iv a3), (9, .bool y2), (49, .slice A_a0 a0.length c_a0), (50, iv a1), (51, iv a2)]) (by kernel_rfl) ?_
    obtain ⟨⟨y13, y14, y16, y19⟩, hc12, h0⟩ := bindS h0
    try dsimp only at h0
    refine oC (Does.call (d := some 52) (n := 14) (vs := [.slice A_a0 a0.length c_a0, iv a1, iv a2]) (by kernel_rfl) en14 (c14 w0 w _ _ hI hT A_a0 c_a0 a0 hr_a0 a1 a2 _ hc12) ?_)
    rintro e w ⟨A17, cp18, rfl, hl15, hI⟩
    refine ⟨_, rfl, ?_⟩
    refine oP (r := [7, 8, 9]) [4, 5, 6] (S' := [(0, .slice A_a0 a0.length c_a0), (1, iv a1), (2, iv a2), (3, iv a3), (9, .bool y2), (53, .agg ((([iv y13] : LV) ++ (cA (Value.int .u8) y14) ++ ([.slice A17 y16.length cp18] : LV))).toArray), (54, .bool y19)]) (by kernel_rfl) ?_
    refine oC (Does.allocL (d := 11) (T := 26) ((([iv 0] : LV) ++ (cA (Value.int .u8) (List.replicate 32 (0 : Int))) ++ ([.slice none 0 0] : LV))) (by kernel_rfl) ty26 hI (by kernel_rfl) ?_)
    intro b20 w hI
    refine oC (dS (T := 26) (b := b20) (o := 0) (v := .agg ((([iv y13] : LV) ++ (cA (Value.int .u8) y14) ++ ([.slice A17 y16.length cp18] : LV))).toArray) (l := (([iv 0] : LV) ++ (cA (Value.int .u8) (List.replicate 32 (0 : Int))) ++ ([.slice none 0 0] : LV))) (vs := (([iv y13] : LV) ++ (cA (Value.int .u8) y14) ++ ([.slice A17 y16.length cp18] : LV))) (L' := (([iv y13] : LV) ++ (cA (Value.int .u8) y14) ++ ([.slice A17 y16.length cp18] : LV))) (by kernel_rfl) ty26 hI (by kernel_rfl) (by simp [cA_length, hl15]) (by rw [show List.length _ = 34 from (by simp [cA_length])]; kernel_rfl) (ones_app _ _ (ones_app _ _ (by kernel_rfl) (ones_cA _)) (by kernel_rfl)) (lset_all _ _ (Eq.trans (show List.length _ = 34 from (by simp [cA_length, hl15])) (Eq.symm (show List.length _ = 34 from (by simp [cA_length]))))) ?_)
    intro w hI
    refine oP (r := []) [9] (S' := [(0, .slice A_a0 a0.length c_a0), (1, iv a1), (2, iv a2), (3, iv a3), (9, .bool y2), (11, pb b20), (12, .bool y19)]) (by kernel_rfl) ?_
    refine oD ?_
    refine qT ?_
    refine cQ ?_
    refine cR [0, 1, 2, 3, 4, 5, 6, 7, 8, 9] (by kernel_rfl) ?_
    refine oP (r := [3, 4, 5, 6, 7, 8, 9]) [0, 1, 2] (S' := [(0, .slice A_a0 a0.length c_a0), (1, iv a1), (2, iv a2), (3, iv a3), (9, .bool y2), (11, pb b20), (12, .bool y19), (56, .slice A_a0 a0.length c_a0), (57, iv a2), (58, iv a3)]) (by kernel_rfl) ?_
    obtain ⟨⟨y22, y23, y25, y28⟩, hc21, h0⟩ := bindS h0
    try dsimp only at h0
    refine oC (Does.call (d := some 59) (n := 14) (vs := [.slice A_a0 a0.length c_a0, iv a2, iv a3]) (by kernel_rfl) en14 (c14 w0 w _ _ hI hT A_a0 c_a0 a0 hr_a0 a2 a3 _ hc21) ?_)
    rintro e w ⟨A26, cp27, rfl, hl24, hI⟩
    refine ⟨_, rfl, ?_⟩
    refine oP (r := [7, 8, 9]) [4, 5, 6] (S' := [(0, .slice A_a0 a0.length c_a0), (1, iv a1), (2, iv a2), (3, iv a3), (9, .bool y2), (11, pb b20), (12, .bool y19), (60, .agg ((([iv y22] : LV) ++ (cA (Value.int .u8) y23) ++ ([.slice A26 y25.length cp27] : LV))).toArray), (61, .bool y28)]) (by kernel_rfl) ?_
    refine oC (Does.allocL (d := 13) (T := 26) ((([iv 0] : LV) ++ (cA (Value.int .u8) (List.replicate 32 (0 : Int))) ++ ([.slice none 0 0] : LV))) (by kernel_rfl) ty26 hI (by kernel_rfl) ?_)
    intro b29 w hI
    refine oC (dS (T := 26) (b := b29) (o := 0) (v := .agg ((([iv y22] : LV) ++ (cA (Value.int .u8) y23) ++ ([.slice A26 y25.length cp27] : LV))).toArray) (l := (([iv 0] : LV) ++ (cA (Value.int .u8) (List.replicate 32 (0 : Int))) ++ ([.slice none 0 0] : LV))) (vs := (([iv y22] : LV) ++ (cA (Value.int .u8) y23) ++ ([.slice A26 y25.length cp27] : LV))) (L' := (([iv y22] : LV) ++ (cA (Value.int .u8) y23) ++ ([.slice A26 y25.length cp27] : LV))) (by kernel_rfl) ty26 hI (by kernel_rfl) (by simp [cA_length, hl24]) (by rw [show List.length _ = 34 from (by simp [cA_length])]; kernel_rfl) (ones_app _ _ (ones_app _ _ (by kernel_rfl) (ones_cA _)) (by kernel_rfl)) (lset_all _ _ (Eq.trans (show List.length _ = 34 from (by simp [cA_length, hl24])) (Eq.symm (show List.length _ = 34 from (by simp [cA_length]))))) ?_)
    intro w hI
    refine oP (r := []) [9] (S' := [(0, .slice A_a0 a0.length c_a0), (1, iv a1), (2, iv a2), (3, iv a3), (9, .bool y2), (11, pb b20), (12, .bool y19), (13, pb b29), (14, .bool y28)]) (by kernel_rfl) ?_
    refine oD ?_
    refine qT ?_
    refine cQ ?_
    refine cR [0, 1, 2, 3, 4, 5, 6, 7, 8, 9] (by kernel_rfl) ?_
    refine oP (r := [3, 4, 5, 6, 7, 8, 9]) [0, 1, 2] (S' := [(1, iv a1), (2, iv a2), (9, .bool y2), (11, pb b20), (12, .bool y19), (13, pb b29), (14, .bool y28), (63, .slice A_a0 a0.length c_a0), (64, iv a1), (65, iv a3)]) (by kernel_rfl) ?_
    obtain ⟨⟨y31, y32, y34, y37⟩, hc30, h0⟩ := bindS h0
    try dsimp only at h0
    refine oC (Does.call (d := some 66) (n := 14) (vs := [.slice A_a0 a0.length c_a0, iv a1, iv a3]) (by kernel_rfl) en14 (c14 w0 w _ _ hI hT A_a0 c_a0 a0 hr_a0 a1 a3 _ hc30) ?_)
    rintro e w ⟨A35, cp36, rfl, hl33, hI⟩
    refine ⟨_, rfl, ?_⟩
    refine oP (r := [7, 8, 9]) [4, 5, 6] (S' := [(1, iv a1), (2, iv a2), (9, .bool y2), (11, pb b20), (12, .bool y19), (13, pb b29), (14, .bool y28), (67, .agg ((([iv y31] : LV) ++ (cA (Value.int .u8) y32) ++ ([.slice A35 y34.length cp36] : LV))).toArray), (68, .bool y37)]) (by kernel_rfl) ?_
    refine oC (Does.allocL (d := 15) (T := 26) ((([iv 0] : LV) ++ (cA (Value.int .u8) (List.replicate 32 (0 : Int))) ++ ([.slice none 0 0] : LV))) (by kernel_rfl) ty26 hI (by kernel_rfl) ?_)
    intro b38 w hI
    refine oC (dS (T := 26) (b := b38) (o := 0) (v := .agg ((([iv y31] : LV) ++ (cA (Value.int .u8) y32) ++ ([.slice A35 y34.length cp36] : LV))).toArray) (l := (([iv 0] : LV) ++ (cA (Value.int .u8) (List.replicate 32 (0 : Int))) ++ ([.slice none 0 0] : LV))) (vs := (([iv y31] : LV) ++ (cA (Value.int .u8) y32) ++ ([.slice A35 y34.length cp36] : LV))) (L' := (([iv y31] : LV) ++ (cA (Value.int .u8) y32) ++ ([.slice A35 y34.length cp36] : LV))) (by kernel_rfl) ty26 hI (by kernel_rfl) (by simp [cA_length, hl33]) (by rw [show List.length _ = 34 from (by simp [cA_length])]; kernel_rfl) (ones_app _ _ (ones_app _ _ (by kernel_rfl) (ones_cA _)) (by kernel_rfl)) (lset_all _ _ (Eq.trans (show List.length _ = 34 from (by simp [cA_length, hl33])) (Eq.symm (show List.length _ = 34 from (by simp [cA_length]))))) ?_)
    intro w hI
    refine oP (r := []) [9] (S' := [(1, iv a1), (2, iv a2), (9, .bool y2), (11, pb b20), (12, .bool y19), (13, pb b29), (14, .bool y28), (15, pb b38), (16, .bool y37)]) (by kernel_rfl) ?_
    refine oD ?_
    refine qT ?_
    refine cQ ?_
    obtain ⟨r1, h1, h0⟩ := bindS h0
    refine CodT.meet (fun a w => ∃ (x39 : Bool), x39 = r1 ∧ Fr 143 [(1, iv a1), (2, iv a2), (9, .bool y2), (11, pb b20), (12, .bool y19), (13, pb b29), (14, .bool y28), (15, pb b38), (16, .bool y37), (78, .bool x39)] a ∧ Inv w0 Z w (star (pt b38 (.cells ((([iv y31] : LV) ++ (cA (Value.int .u8) y32) ++ ([.slice A35 y34.length cp36] : LV))).toArray 26 (0, 0))) (star (pt b29 (.cells ((([iv y22] : LV) ++ (cA (Value.int .u8) y23) ++ ([.slice A26 y25.length cp27] : LV))).toArray 26 (0, 0))) (star (pt b20 (.cells ((([iv y13] : LV) ++ (cA (Value.int .u8) y14) ++ ([.slice A17 y16.length cp18] : LV))).toArray 26 (0, 0))) (star (ownS 40 c_ApiEvent 37 A35 cp36 y34) (star (ownS 40 c_ApiEvent 37 A26 cp27 y25) (star (ownS 40 c_ApiEvent 37 A17 cp18 y16) A))))))) ?_ ?_
    ·
     refine cR [0, 1, 2, 3, 4, 5, 6, 7, 8, 9] (by kernel_rfl) ?_
     refine oP (r := [3, 4, 5, 6, 7, 8, 9]) [0, 1, 2] (S' := [(1, iv a1), (2, iv a2), (9, .bool y2), (11, pb b20), (12, .bool y19), (13, pb b29), (14, .bool y28), (15, pb b38), (16, .bool y37), (71, .bool (!y19))]) (by kernel_rfl) ?_
     by_cases hb40 : (!y19) = true
     ·
      rw [if_pos hb40] at h1
      refine oK [1, 2, 9, 11, 12, 13, 14, 15, 16, 71] (S' := [(1, iv a1), (2, iv a2), (9, .bool y2), (11, pb b20), (12, .bool y19), (13, pb b29), (14, .bool y28), (15, pb b38), (16, .bool y37), (71, .bool true)]) (by (try simp only [hb40]); kernel_rfl) ?_
      refine oP (r := []) [3, 4, 5, 6, 7, 8, 9] (S' := [(1, iv a1), (2, iv a2), (9, .bool y2), (11, pb b20), (12, .bool y19), (13, pb b29), (14, .bool y28), (15, pb b38), (16, .bool y37), (78, .bool true)]) (by kernel_rfl) ?_
      refine oD ?_
      have hI := hI.mono (pick6 _ _ _ _ _ _ _)
      have hI := hI.mono (pick5 _ _ _ _ _ _)
      have hI := hI.mono (pick4 _ _ _ _ _)
      have hI := hI.mono (pick6 _ _ _ _ _ _ _)
      have hI := hI.mono (pick6 _ _ _ _ _ _ _)
      have hI := hI.mono (pick6 _ _ _ _ _ _ _)
      have e := someS h1
      subst e
      exact Qn.thenJ fun a ha => ⟨true, rfl, ha.keep [1, 2, 9, 11, 12, 13, 14, 15, 16, 78] (by kernel_rfl), hI⟩
     ·
      rw [if_neg hb40] at h1
      have hb40 : (!y19) = false := by simpa using hb40
      refine oK [1, 2, 9, 11, 12, 13, 14, 15, 16, 71] (S' := [(1, iv a1), (2, iv a2), (9, .bool y2), (11, pb b20), (12, .bool y19), (13, pb b29), (14, .bool y28), (15, pb b38), (16, .bool y37), (71, .bool false)]) (by (try simp only [hb40]); kernel_rfl) ?_
      refine oP (r := [7, 8, 9]) [3, 4, 5, 6] (S' := [(1, iv a1), (2, iv a2), (9, .bool y2), (11, pb b20), (12, .bool y19), (13, pb b29), (14, .bool y28), (15, pb b38), (16, .bool y37), (75, .bool (!y28))]) (by kernel_rfl) ?_
      by_cases hb41 : (!y28) = true
      ·
       rw [if_pos hb41] at h1
       refine oK [1, 2, 9, 11, 12, 13, 14, 15, 16, 75] (S' := [(1, iv a1), (2, iv a2), (9, .bool y2), (11, pb b20), (12, .bool y19), (13, pb b29), (14, .bool y28), (15, pb b38), (16, .bool y37), (75, .bool true)]) (by (try simp only [hb41]); kernel_rfl) ?_
       refine oP (r := []) [7, 8, 9] (S' := [(1, iv a1), (2, iv a2), (9, .bool y2), (11, pb b20), (12, .bool y19), (13, pb b29), (14, .bool y28), (15, pb b38), (16, .bool y37), (78, .bool true)]) (by kernel_rfl) ?_
       refine oD ?_
       have hI := hI.mono (pick6 _ _ _ _ _ _ _)
       have hI := hI.mono (pick5 _ _ _ _ _ _)
       have hI := hI.mono (pick4 _ _ _ _ _)
       have hI := hI.mono (pick6 _ _ _ _ _ _ _)
       have hI := hI.mono (pick6 _ _ _ _ _ _ _)
       have hI := hI.mono (pick6 _ _ _ _ _ _ _)
       have e := someS h1
       subst e
       exact Qn.thenJ fun a ha => ⟨true, rfl, ha.keep [1, 2, 9, 11, 12, 13, 14, 15, 16, 78] (by kernel_rfl), hI⟩
      ·
       rw [if_neg hb41] at h1
       have hb41 : (!y28) = false := by simpa using hb41
       refine oK [1, 2, 9, 11, 12, 13, 14, 15, 16, 75] (S' := [(1, iv a1), (2, iv a2), (9, .bool y2), (11, pb b20), (12, .bool y19), (13, pb b29), (14, .bool y28), (15, pb b38), (16, .bool y37), (75, .bool false)]) (by (try simp only [hb41]); kernel_rfl) ?_
       refine oP (r := []) [7, 8, 9] (S' := [(1, iv a1), (2, iv a2), (9, .bool y2), (11, pb b20), (12, .bool y19), (13, pb b29), (14, .bool y28), (15, pb b38), (16, .bool y37), (78, .bool (!y37))]) (by kernel_rfl) ?_
       refine oD ?_
       have hI := hI.mono (pick6 _ _ _ _ _ _ _)
       have hI := hI.mono (pick5 _ _ _ _ _ _)
       have hI := hI.mono (pick4 _ _ _ _ _)
       have hI := hI.mono (pick6 _ _ _ _ _ _ _)
       have hI := hI.mono (pick6 _ _ _ _ _ _ _)
       have hI := hI.mono (pick6 _ _ _ _ _ _ _)
       have e := someS h1
       subst e
       exact Qn.thenJ fun a ha => ⟨!y37, rfl, ha.keep [1, 2, 9, 11, 12, 13, 14, 15, 16, 78] (by kernel_rfl), hI⟩
    ·
     rintro a w ⟨x39, rfl, ha, hI⟩
     try dsimp only at h0
     refine CodT.of ?_ ha
     by_cases hb42 : x39 = true
     ·
      rw [if_pos hb42] at h0
      refine CodT.yes' (b := x39) (by kernel_rfl) hb42 ?_
      obtain ⟨r1, h1, h0⟩ := bindS h0
      refine CodT.meet (fun a w => ∃ (x43 : Bool), x43 = r1 ∧ Fr 143 [(8, .bool x43)] a ∧ Inv w0 Z w A) ?_ ?_
      ·
       refine cR [0, 1, 2, 3, 4, 5, 6, 7, 8, 9, 10, 11, 12, 13] (by kernel_rfl) ?_
       refine oP (r := [2, 3, 4, 5, 6, 7, 8, 9, 10, 11, 12, 13]) [0, 1] (S' := [(12, .bool y19), (14, .bool y28), (16, .bool y37), (80, .bool y2)]) (by kernel_rfl) ?_
       by_cases hb44 : y2 = true
       ·
        rw [if_pos hb44] at h1
        refine oK [12, 14, 16, 80] (S' := [(12, .bool y19), (14, .bool y28), (16, .bool y37), (80, .bool true)]) (by (try simp only [hb44]); kernel_rfl) ?_
        refine oP (r := [6, 7, 8, 9, 10, 11, 12, 13]) [2, 3, 4, 5] (S' := [(14, .bool y28), (16, .bool y37), (84, .bool (!y19))]) (by kernel_rfl) ?_
        by_cases hb45 : (!y19) = true
        ·
         rw [if_pos hb45] at h1
         refine oK [14, 16, 84] (S' := [(14, .bool y28), (16, .bool y37), (84, .bool true)]) (by (try simp only [hb45]); kernel_rfl) ?_
         refine oP (r := [10, 11, 12, 13]) [6, 7, 8, 9] (S' := [(16, .bool y37), (88, .bool (!y28))]) (by kernel_rfl) ?_
         by_cases hb46 : (!y28) = true
         ·
          rw [if_pos hb46] at h1
          refine oK [16, 88] (S' := [(16, .bool y37), (88, .bool true)]) (by (try simp only [hb46]); kernel_rfl) ?_
          refine oP (r := []) [10, 11, 12, 13] (S' := [(8, .bool (!y37))]) (by kernel_rfl) ?_
          refine oD ?_
          have hI := hI.drop
          have hI := hI.drop
          have hI := hI.drop
          have hI := hI.drop
          have hI := hI.drop
          have hI := hI.drop
          have e := someS h1
          subst e
          exact Qn.thenJ fun a ha => ⟨!y37, rfl, ha.keep [8] (by kernel_rfl), hI⟩
         ·
          rw [if_neg hb46] at h1
          have hb46 : (!y28) = false := by simpa using hb46
          refine oK [16, 88] (S' := [(16, .bool y37), (88, .bool false)]) (by (try simp only [hb46]); kernel_rfl) ?_
          refine oP (r := []) [10, 11, 12, 13] (S' := [(8, .bool false)]) (by kernel_rfl) ?_
          refine oD ?_
          have hI := hI.drop
          have hI := hI.drop
          have hI := hI.drop
          have hI := hI.drop
          have hI := hI.drop
          have hI := hI.drop
          have e := someS h1
          subst e
          exact Qn.thenJ fun a ha => ⟨false, rfl, ha.keep [8] (by kernel_rfl), hI⟩
        ·
         rw [if_neg hb45] at h1
         have hb45 : (!y19) = false := by simpa using hb45
         refine oK [14, 16, 84] (S' := [(14, .bool y28), (16, .bool y37), (84, .bool false)]) (by (try simp only [hb45]); kernel_rfl) ?_
         refine oP (r := []) [6, 7, 8, 9, 10, 11, 12, 13] (S' := [(8, .bool false)]) (by kernel_rfl) ?_
         refine oD ?_
         have hI := hI.drop
         have hI := hI.drop
         have hI := hI.drop
         have hI := hI.drop
         have hI := hI.drop
         have hI := hI.drop
         have e := someS h1
         subst e
         exact Qn.thenJ fun a ha => ⟨false, rfl, ha.keep [8] (by kernel_rfl), hI⟩
       ·
        rw [if_neg hb44] at h1
        have hb44 : y2 = false := by simpa using hb44
        refine oK [12, 14, 16, 80] (S' := [(12, .bool y19), (14, .bool y28), (16, .bool y37), (80, .bool false)]) (by (try simp only [hb44]); kernel_rfl) ?_
        refine oP (r := []) [2, 3, 4, 5, 6, 7, 8, 9, 10, 11, 12, 13] (S' := [(8, .bool false)]) (by kernel_rfl) ?_
        refine oD ?_
        have hI := hI.drop
        have hI := hI.drop
        have hI := hI.drop
        have hI := hI.drop
        have hI := hI.drop
        have hI := hI.drop
        have e := someS h1
        subst e
        exact Qn.thenJ fun a ha => ⟨false, rfl, ha.keep [8] (by kernel_rfl), hI⟩
      ·
       rintro a w ⟨x43, rfl, ha, hI⟩
       try dsimp only at h0
       refine CodT.of ?_ ha
       refine CodT.ret ?_
       refine Qn.ret_then ?_
       have e := someS h0
       subst e
       refine qK [8] (S' := [(8, .bool x43)]) (by kernel_rfl) ?_
       exact post_ret (v := .bool x43) (fun a ha => RunRes.run (vs := [.bool x43]) (.tmp (t := 8) (by kernel_rfl) .nil) ha (by kernel_rfl)) ⟨rfl, hI⟩
     ·
      rw [if_neg hb42] at h0
      refine CodT.no' (b := x39) (by kernel_rfl) (by simpa using hb42) ?_
      refine CodT.skip ?_
      refine qT ?_
      refine cQ ?_
      refine cR [0, 1, 2, 3, 4, 5, 6, 7, 8, 9, 10] (by kernel_rfl) ?_
      refine oP (r := [1, 2, 3, 4, 5, 6, 7, 8, 9, 10]) [0] (S' := [(1, iv a1), (2, iv a2), (9, .bool y2), (11, pb b20), (13, pb b29), (15, pb b38), (93, .pointer (some ⟨b20, 1, none⟩))]) (by kernel_rfl) ?_
      refine oC (Does.yi (Yl.load (d := 94) (T := 23) (v := .agg (cA (Value.int .u8) y14).toArray) (by kernel_rfl) (ldBN ty23 (l := (([iv y13] : LV) ++ (cA (Value.int .u8) y14) ++ ([.slice A17 y16.length cp18] : LV))) (o := 1) (cs := cA (Value.int .u8) y14) (pick3 _ _ _ _) ((cA_length _ _).trans hl15) (seg_take [([iv y13] : LV), cA (Value.int .u8) y14, ([.slice A17 y16.length cp18] : LV)] 1 1 (by simp [cA_length, hl15]) (by simp [cA_length, hl15]) (by simp [cA_length, hl15]) (by simp [cA_length, hl15])))) hI ?_)
      refine oP (r := [3, 4, 5, 6, 7, 8, 9, 10]) [2] (S' := [(1, iv a1), (2, iv a2), (9, .bool y2), (11, pb b20), (13, pb b29), (15, pb b38), (94, .agg (cA (Value.int .u8) y14).toArray), (95, .pointer (some ⟨b20, 33, none⟩))]) (by kernel_rfl) ?_
      refine oC (Does.yi (Yl.load (d := 96) (T := 24) (v := .slice A17 y16.length cp18) (by kernel_rfl) (ldB ty24 (l := (([iv y13] : LV) ++ (cA (Value.int .u8) y14) ++ ([.slice A17 y16.length cp18] : LV))) (o := 33) (v := .slice A17 y16.length cp18) (pick3 _ _ _ _) (seg_get [([iv y13] : LV), cA (Value.int .u8) y14, ([.slice A17 y16.length cp18] : LV)] 2 (by simp [cA_length, hl15]) (by simp [cA_length, hl15]) rfl))) hI ?_)
      have hI := hI.mono (pick6 _ _ _ _ _ _ _)
      obtain ⟨Z47, hle48, hr49, hI⟩ := ownS_freeze hI
      obtain ⟨⟨y51, y53⟩, hc50, h0⟩ := bindS h0
      try dsimp only at h0
      refine oC (Does.call (d := some 97) (n := 16) (vs := [.agg (cA (Value.int .u8) y14).toArray, .slice A17 y16.length cp18]) (by kernel_rfl) en16 (c16 w0 w _ _ hI (hT.mono hle48) y14 hl15 A17 cp18 y16 hr49 _ hc50) ?_)
      rintro e w ⟨rfl, hl52, hI⟩
      refine ⟨_, rfl, ?_⟩
      refine oP (r := [8, 9, 10]) [5, 6, 7] (S' := [(1, iv a1), (2, iv a2), (9, .bool y2), (11, pb b20), (13, pb b29), (15, pb b38), (98, .agg (cA (Value.int .u8) y51).toArray), (99, .bool y53)]) (by kernel_rfl) ?_
      refine oC (Does.allocL (d := 17) (T := 23) (cA (Value.int .u8) (List.replicate 32 (0 : Int))) (by kernel_rfl) ty23 hI (by kernel_rfl) ?_)
      intro b54 w hI
      refine oC (Does.storeAll (T := 23) (b := b54) (n := 32) (xs := (List.replicate 32 (0 : Int))) (ys := y51) (by kernel_rfl) ty23 hI (fun _ => rfl) (by kernel_rfl) hl52 ?_)
      intro w hI
      refine oP (r := []) [10] (S' := [(1, iv a1), (2, iv a2), (9, .bool y2), (11, pb b20), (13, pb b29), (15, pb b38), (17, pb b54), (18, .bool y53)]) (by kernel_rfl) ?_
      refine oD ?_
      refine qT ?_
      refine cQ ?_
      refine cR [0] (by kernel_rfl) ?_
      refine oP (r := []) [0] (S' := [(1, iv a1), (2, iv a2), (9, .bool y2), (11, pb b20), (13, pb b29), (15, pb b38), (17, pb b54), (18, .bool y53), (19, .slice none 0 0)]) (by kernel_rfl) ?_
      refine oD ?_
      refine qT ?_
      refine cQ ?_
      refine cR [0, 1, 2, 3, 4] (by kernel_rfl) ?_
      refine oP (r := [2, 3, 4]) [0, 1] (S' := [(1, iv a1), (2, iv a2), (9, .bool y2), (11, pb b20), (13, pb b29), (15, pb b38), (17, pb b54), (18, .bool y53), (100, .slice none 0 0), (101, .pointer (some ⟨b20, 33, none⟩))]) (by kernel_rfl) ?_
      refine oC (Does.yi (Yl.load (d := 102) (T := 24) (v := .slice A17 y16.length cp18) (by kernel_rfl) (ldB ty24 (l := (([iv y13] : LV) ++ (cA (Value.int .u8) y14) ++ ([.slice A17 y16.length cp18] : LV))) (o := 33) (v := .slice A17 y16.length cp18) (pick4 _ _ _ _ _) (seg_get [([iv y13] : LV), cA (Value.int .u8) y14, ([.slice A17 y16.length cp18] : LV)] 2 (by simp [cA_length, hl15]) (by simp [cA_length, hl15]) rfl))) hI ?_)
      have hI := ownS_nil (α := ApiEvent) hI 40 c_ApiEvent 37
      obtain ⟨hg55, h0⟩ := guardS h0
      refine oC (Does.append (d := 103) (t := 24) (tx := 24) (ty := 24) (ys := ([] : List ApiEvent)) (zs := y16) (x := .slice A17 y16.length cp18) (by kernel_rfl) Go.Proofs.Tryd.underlying24 ty40 (by kernel_rfl) hI (src_rd Go.Proofs.Tryd.underlying24 hI hr49 (one_flat _ one_ApiEvent)) hr49.2.2.1 (by unfold LIM at hg55; omega) hg55 ?_)
      intro A56 cp57 w hI
      refine oP (r := []) [4] (S' := [(1, iv a1), (2, iv a2), (9, .bool y2), (11, pb b20), (13, pb b29), (15, pb b38), (17, pb b54), (18, .bool y53), (19, .slice A56 ((([] : List ApiEvent) ++ y16).length) cp57)]) (by kernel_rfl) ?_
      refine oD ?_
      refine qT ?_
      refine cQ ?_
      refine cR [0, 1, 2, 3, 4] (by kernel_rfl) ?_
      refine oP (r := [2, 3, 4]) [0, 1] (S' := [(1, iv a1), (2, iv a2), (9, .bool y2), (11, pb b20), (13, pb b29), (15, pb b38), (17, pb b54), (18, .bool y53), (104, .slice A56 ((([] : List ApiEvent) ++ y16).length) cp57), (105, .pointer (some ⟨b29, 33, none⟩))]) (by kernel_rfl) ?_
      refine oC (Does.yi (Yl.load (d := 106) (T := 24) (v := .slice A26 y25.length cp27) (by kernel_rfl) (ldB ty24 (l := (([iv y22] : LV) ++ (cA (Value.int .u8) y23) ++ ([.slice A26 y25.length cp27] : LV))) (o := 33) (v := .slice A26 y25.length cp27) (pick4 _ _ _ _ _) (seg_get [([iv y22] : LV), cA (Value.int .u8) y23, ([.slice A26 y25.length cp27] : LV)] 2 (by simp [cA_length, hl24]) (by simp [cA_length, hl24]) rfl))) hI ?_)
      obtain ⟨hg58, h0⟩ := guardS h0
      refine oC (Does.append (d := 107) (t := 24) (tx := 24) (ty := 24) (ys := ([] : List ApiEvent) ++ y16) (zs := y25) (x := .slice A26 y25.length cp27) (by kernel_rfl) Go.Proofs.Tryd.underlying24 ty40 (by kernel_rfl) hI (src_own Go.Proofs.Tryd.underlying24 (hI.mono (pick7 _ _ _ _ _ _ _ _)) (one_flat _ one_ApiEvent)) (ownS_facts (hI.mono (pick7 _ _ _ _ _ _ _ _))).2.2 (by unfold LIM at hg58; omega) hg58 ?_)
      intro A59 cp60 w hI
      refine oP (r := []) [4] (S' := [(1, iv a1), (2, iv a2), (9, .bool y2), (11, pb b20), (13, pb b29), (15, pb b38), (17, pb b54), (18, .bool y53), (19, .slice A59 (((([] : List ApiEvent) ++ y16) ++ y25).length) cp60)]) (by kernel_rfl) ?_
      refine oD ?_
      refine qT ?_
      obtain ⟨Z61, hle62, hr63, hI⟩ := ownS_freeze hI
      obtain ⟨r1, h1, h0⟩ := bindS h0
      refine CodT.meet (fun a w => ∃ (x66 : Bool) (Z64 : Hp), x66 = r1 ∧ Fr 143 [(8, .bool x66)] a ∧ Inv w0 Z64 w A ∧ Z61.le Z64) ?_ ?_
      ·
       refine cR [0, 1, 2, 3, 4, 5, 6, 7, 8, 9, 10, 11, 12, 13, 14, 15, 16, 17, 18, 19, 20, 21, 22, 23, 24, 25, 26, 27, 28, 29, 30, 31, 32, 33, 34, 35] (by kernel_rfl) ?_
       refine oP (r := [2, 3, 4, 5, 6, 7, 8, 9, 10, 11, 12, 13, 14, 15, 16, 17, 18, 19, 20, 21, 22, 23, 24, 25, 26, 27, 28, 29, 30, 31, 32, 33, 34, 35]) [0, 1] (S' := [(1, iv a1), (2, iv a2), (11, pb b20), (13, pb b29), (15, pb b38), (17, pb b54), (18, .bool y53), (19, .slice A59 (((([] : List ApiEvent) ++ y16) ++ y25).length) cp60), (109, .bool y2)]) (by kernel_rfl) ?_
       by_cases hb67 : y2 = true
       ·
        rw [if_pos hb67] at h1
        refine oK [1, 2, 11, 13, 15, 17, 18, 19, 109] (S' := [(1, iv a1), (2, iv a2), (11, pb b20), (13, pb b29), (15, pb b38), (17, pb b54), (18, .bool y53), (19, .slice A59 (((([] : List ApiEvent) ++ y16) ++ y25).length) cp60), (109, .bool true)]) (by (try simp only [hb67]); kernel_rfl) ?_
        refine oP (r := [5, 6, 7, 8, 9, 10, 11, 12, 13, 14, 15, 16, 17, 18, 19, 20, 21, 22, 23, 24, 25, 26, 27, 28, 29, 30, 31, 32, 33, 34, 35]) [2, 3, 4] (S' := [(1, iv a1), (2, iv a2), (11, pb b20), (13, pb b29), (15, pb b38), (17, pb b54), (19, .slice A59 (((([] : List ApiEvent) ++ y16) ++ y25).length) cp60), (112, .bool y53)]) (by kernel_rfl) ?_
        by_cases hb68 : y53 = true
        ·
         rw [if_pos hb68] at h1
         refine oK [1, 2, 11, 13, 15, 17, 19, 112] (S' := [(1, iv a1), (2, iv a2), (11, pb b20), (13, pb b29), (15, pb b38), (17, pb b54), (19, .slice A59 (((([] : List ApiEvent) ++ y16) ++ y25).length) cp60), (112, .bool true)]) (by (try simp only [hb68]); kernel_rfl) ?_
         refine oC (Does.yi (Yl.load (d := 113) (T := 23) (v := .agg (cA (Value.int .u8) y51).toArray) (by kernel_rfl) (ldBN ty23 (l := cA (Value.int .u8) y51) (o := 0) (cs := cA (Value.int .u8) y51) (ent_refl _) ((cA_length _ _).trans hl52) (whole _ _ ((cA_length _ _).trans hl52)))) hI ?_)
         refine oP (r := [7, 8, 9, 10, 11, 12, 13, 14, 15, 16, 17, 18, 19, 20, 21, 22, 23, 24, 25, 26, 27, 28, 29, 30, 31, 32, 33, 34, 35]) [6] (S' := [(1, iv a1), (2, iv a2), (11, pb b20), (13, pb b29), (15, pb b38), (19, .slice A59 (((([] : List ApiEvent) ++ y16) ++ y25).length) cp60), (112, .bool true), (113, .agg (cA (Value.int .u8) y51).toArray), (114, .pointer (some ⟨b29, 1, none⟩))]) (by kernel_rfl) ?_
         refine oC (Does.yi (Yl.load (d := 115) (T := 23) (v := .agg (cA (Value.int .u8) y23).toArray) (by kernel_rfl) (ldBN ty23 (l := (([iv y22] : LV) ++ (cA (Value.int .u8) y23) ++ ([.slice A26 y25.length cp27] : LV))) (o := 1) (cs := cA (Value.int .u8) y23) (pick3 _ _ _ _) ((cA_length _ _).trans hl24) (seg_take [([iv y22] : LV), cA (Value.int .u8) y23, ([.slice A26 y25.length cp27] : LV)] 1 1 (by simp [cA_length, hl24]) (by simp [cA_length, hl24]) (by simp [cA_length, hl24]) (by simp [cA_length, hl24])))) hI ?_)
         refine oC (Does.yi (Yl.eqlA (k := .u8) (d := 116) (T := 23) (xs := y51) (ys := y23) (by kernel_rfl) Go.Proofs.Tryd.underlying23 (by kernel_rfl) Go.Proofs.Tryd.underlying5 ty5 hl52 hl24) hI ?_)
         refine oP (r := [11, 12, 13, 14, 15, 16, 17, 18, 19, 20, 21, 22, 23, 24, 25, 26, 27, 28, 29, 30, 31, 32, 33, 34, 35]) [9, 10] (S' := [(1, iv a1), (2, iv a2), (11, pb b20), (13, pb b29), (15, pb b38), (19, .slice A59 (((([] : List ApiEvent) ++ y16) ++ y25).length) cp60), (118, .bool (eqA y51 y23))]) (by kernel_rfl) ?_
         by_cases hb69 : (eqA y51 y23) = true
         ·
          rw [if_pos hb69] at h1
          refine oK [1, 2, 11, 13, 15, 19, 118] (S' := [(1, iv a1), (2, iv a2), (11, pb b20), (13, pb b29), (15, pb b38), (19, .slice A59 (((([] : List ApiEvent) ++ y16) ++ y25).length) cp60), (118, .bool true)]) (by (try simp only [hb69]); kernel_rfl) ?_
          refine oP (r := [12, 13, 14, 15, 16, 17, 18, 19, 20, 21, 22, 23, 24, 25, 26, 27, 28, 29, 30, 31, 32, 33, 34, 35]) [11] (S' := [(1, iv a1), (2, iv a2), (13, pb b29), (15, pb b38), (19, .slice A59 (((([] : List ApiEvent) ++ y16) ++ y25).length) cp60), (118, .bool true), (119, .pointer (some ⟨b20, 1, none⟩))]) (by kernel_rfl) ?_
          refine oC (Does.yi (Yl.load (d := 120) (T := 23) (v := .agg (cA (Value.int .u8) y14).toArray) (by kernel_rfl) (ldBN ty23 (l := (([iv y13] : LV) ++ (cA (Value.int .u8) y14) ++ ([.slice A17 y16.length cp18] : LV))) (o := 1) (cs := cA (Value.int .u8) y14) (pick4 _ _ _ _ _) ((cA_length _ _).trans hl15) (seg_take [([iv y13] : LV), cA (Value.int .u8) y14, ([.slice A17 y16.length cp18] : LV)] 1 1 (by simp [cA_length, hl15]) (by simp [cA_length, hl15]) (by simp [cA_length, hl15]) (by simp [cA_length, hl15])))) hI ?_)
          refine oP (r := [14, 15, 16, 17, 18, 19, 20, 21, 22, 23, 24, 25, 26, 27, 28, 29, 30, 31, 32, 33, 34, 35]) [13] (S' := [(1, iv a1), (2, iv a2), (13, pb b29), (15, pb b38), (19, .slice A59 (((([] : List ApiEvent) ++ y16) ++ y25).length) cp60), (118, .bool true), (120, .agg (cA (Value.int .u8) y14).toArray), (121, .pointer (some ⟨b38, 1, none⟩))]) (by kernel_rfl) ?_
          refine oC (Does.yi (Yl.load (d := 122) (T := 23) (v := .agg (cA (Value.int .u8) y32).toArray) (by kernel_rfl) (ldBN ty23 (l := (([iv y31] : LV) ++ (cA (Value.int .u8) y32) ++ ([.slice A35 y34.length cp36] : LV))) (o := 1) (cs := cA (Value.int .u8) y32) (pick2 _ _ _) ((cA_length _ _).trans hl33) (seg_take [([iv y31] : LV), cA (Value.int .u8) y32, ([.slice A35 y34.length cp36] : LV)] 1 1 (by simp [cA_length, hl33]) (by simp [cA_length, hl33]) (by simp [cA_length, hl33]) (by simp [cA_length, hl33])))) hI ?_)
          refine oC (Does.yi (Yl.eqlA (k := .u8) (d := 123) (T := 23) (xs := y14) (ys := y32) (by kernel_rfl) Go.Proofs.Tryd.underlying23 (by kernel_rfl) Go.Proofs.Tryd.underlying5 ty5 hl15 hl33) hI ?_)
          refine oP (r := [18, 19, 20, 21, 22, 23, 24, 25, 26, 27, 28, 29, 30, 31, 32, 33, 34, 35]) [16, 17] (S' := [(1, iv a1), (2, iv a2), (13, pb b29), (15, pb b38), (19, .slice A59 (((([] : List ApiEvent) ++ y16) ++ y25).length) cp60), (125, .bool (eqA y14 y32))]) (by kernel_rfl) ?_
          by_cases hb70 : (eqA y14 y32) = true
          ·
           rw [if_pos hb70] at h1
           refine oK [1, 2, 13, 15, 19, 125] (S' := [(1, iv a1), (2, iv a2), (13, pb b29), (15, pb b38), (19, .slice A59 (((([] : List ApiEvent) ++ y16) ++ y25).length) cp60), (125, .bool true)]) (by (try simp only [hb70]); kernel_rfl) ?_
           refine oP (r := [20, 21, 22, 23, 24, 25, 26, 27, 28, 29, 30, 31, 32, 33, 34, 35]) [18, 19] (S' := [(1, iv a1), (2, iv a2), (13, pb b29), (15, pb b38), (125, .bool true), (126, .slice A59 (((([] : List ApiEvent) ++ y16) ++ y25).length) cp60), (127, .pointer (some ⟨b38, 33, none⟩))]) (by kernel_rfl) ?_
           refine oC (Does.yi (Yl.load (d := 128) (T := 24) (v := .slice A35 y34.length cp36) (by kernel_rfl) (ldB ty24 (l := (([iv y31] : LV) ++ (cA (Value.int .u8) y32) ++ ([.slice A35 y34.length cp36] : LV))) (o := 33) (v := .slice A35 y34.length cp36) (pick2 _ _ _) (seg_get [([iv y31] : LV), cA (Value.int .u8) y32, ([.slice A35 y34.length cp36] : LV)] 2 (by simp [cA_length, hl33]) (by simp [cA_length, hl33]) rfl))) hI ?_)
           have hI := hI.mono (pick5 _ _ _ _ _ _)
           obtain ⟨Z71, hle72, hr73, hI⟩ := ownS_freeze hI
           obtain ⟨y75, hc74, h1⟩ := bindS h1
           try dsimp only at h1
           refine oC (Does.call (d := some 129) (n := 17) (vs := [.slice A59 (((([] : List ApiEvent) ++ y16) ++ y25).length) cp60, .slice A35 y34.length cp36]) (by kernel_rfl) en17 (c17 w0 w _ _ hI (hT.mono (Hp.le_trans (Hp.le_trans hle48 hle62) hle72)) A59 cp60 ((([] : List ApiEvent) ++ y16) ++ y25) (hr63.mono hle72) A35 cp36 y34 hr73 _ hc74) ?_)
           rintro e w ⟨rfl, hI⟩
           refine ⟨_, rfl, ?_⟩
           refine oP (r := [24, 25, 26, 27, 28, 29, 30, 31, 32, 33, 34, 35]) [22, 23] (S' := [(1, iv a1), (2, iv a2), (13, pb b29), (15, pb b38), (131, .bool y75)]) (by kernel_rfl) ?_
           by_cases hb76 : y75 = true
           ·
            rw [if_pos hb76] at h1
            refine oK [1, 2, 13, 15, 131] (S' := [(1, iv a1), (2, iv a2), (13, pb b29), (15, pb b38), (131, .bool true)]) (by (try simp only [hb76]); kernel_rfl) ?_
            refine oP (r := [25, 26, 27, 28, 29, 30, 31, 32, 33, 34, 35]) [24] (S' := [(1, iv a1), (2, iv a2), (15, pb b38), (131, .bool true), (132, pb b29)]) (by kernel_rfl) ?_
            refine oC (Does.yi (Yl.load (d := 133) (T := 3) (v := iv y22) (by kernel_rfl) (ldB ty3 (l := (([iv y22] : LV) ++ (cA (Value.int .u8) y23) ++ ([.slice A26 y25.length cp27] : LV))) (o := 0) (v := iv y22) (pick3 _ _ _ _) (by kernel_rfl))) hI ?_)
            refine oP (r := [30, 31, 32, 33, 34, 35]) [26, 27, 28, 29] (S' := [(1, iv a1), (15, pb b38), (137, .bool (y22 == a2))]) (by kernel_rfl) ?_
            by_cases hb77 : (y22 == a2) = true
            ·
             rw [if_pos hb77] at h1
             refine oK [1, 15, 137] (S' := [(1, iv a1), (15, pb b38), (137, .bool true)]) (by (try simp only [hb77]); kernel_rfl) ?_
             refine oP (r := [31, 32, 33, 34, 35]) [30] (S' := [(1, iv a1), (137, .bool true), (138, pb b38)]) (by kernel_rfl) ?_
             refine oC (Does.yi (Yl.load (d := 139) (T := 3) (v := iv y31) (by kernel_rfl) (ldB ty3 (l := (([iv y31] : LV) ++ (cA (Value.int .u8) y32) ++ ([.slice A35 y34.length cp36] : LV))) (o := 0) (v := iv y31) (pick2 _ _ _) (by kernel_rfl))) hI ?_)
             refine oP (r := []) [32, 33, 34, 35] (S' := [(8, .bool (y31 == a1))]) (by kernel_rfl) ?_
             refine oD ?_
             have hI := hI.drop
             have hI := hI.drop
             have hI := hI.drop
             have hI := hI.drop
             have hI := hI.drop
             have e := someS h1
             subst e
             exact Qn.thenJ fun a ha => ⟨y31 == a1, Z71, rfl, ha.keep [8] (by kernel_rfl), hI, hle72⟩
            ·
             rw [if_neg hb77] at h1
             have hb77 : (y22 == a2) = false := by simpa using hb77
             refine oK [1, 15, 137] (S' := [(1, iv a1), (15, pb b38), (137, .bool false)]) (by (try simp only [hb77]); kernel_rfl) ?_
             refine oP (r := []) [30, 31, 32, 33, 34, 35] (S' := [(8, .bool false)]) (by kernel_rfl) ?_
             refine oD ?_
             have hI := hI.drop
             have hI := hI.drop
             have hI := hI.drop
             have hI := hI.drop
             have hI := hI.drop
             have e := someS h1
             subst e
             exact Qn.thenJ fun a ha => ⟨false, Z71, rfl, ha.keep [8] (by kernel_rfl), hI, hle72⟩
           ·
            rw [if_neg hb76] at h1
            have hb76 : y75 = false := by simpa using hb76
            refine oK [1, 2, 13, 15, 131] (S' := [(1, iv a1), (2, iv a2), (13, pb b29), (15, pb b38), (131, .bool false)]) (by (try simp only [hb76]); kernel_rfl) ?_
            refine oP (r := []) [24, 25, 26, 27, 28, 29, 30, 31, 32, 33, 34, 35] (S' := [(8, .bool false)]) (by kernel_rfl) ?_
            refine oD ?_
            have hI := hI.drop
            have hI := hI.drop
            have hI := hI.drop
            have hI := hI.drop
            have hI := hI.drop
            have e := someS h1
            subst e
            exact Qn.thenJ fun a ha => ⟨false, Z71, rfl, ha.keep [8] (by kernel_rfl), hI, hle72⟩
          ·
           rw [if_neg hb70] at h1
           have hb70 : (eqA y14 y32) = false := by simpa using hb70
           refine oK [1, 2, 13, 15, 19, 125] (S' := [(1, iv a1), (2, iv a2), (13, pb b29), (15, pb b38), (19, .slice A59 (((([] : List ApiEvent) ++ y16) ++ y25).length) cp60), (125, .bool false)]) (by (try simp only [hb70]); kernel_rfl) ?_
           refine oP (r := []) [18, 19, 20, 21, 22, 23, 24, 25, 26, 27, 28, 29, 30, 31, 32, 33, 34, 35] (S' := [(8, .bool false)]) (by kernel_rfl) ?_
           refine oD ?_
           have hI := hI.drop
           have hI := hI.drop
           have hI := hI.drop
           have hI := hI.drop
           have hI := hI.drop
           have hI := hI.drop
           have e := someS h1
           subst e
           exact Qn.thenJ fun a ha => ⟨false, Z61, rfl, ha.keep [8] (by kernel_rfl), hI, (Hp.le_refl _)⟩
         ·
          rw [if_neg hb69] at h1
          have hb69 : (eqA y51 y23) = false := by simpa using hb69
          refine oK [1, 2, 11, 13, 15, 19, 118] (S' := [(1, iv a1), (2, iv a2), (11, pb b20), (13, pb b29), (15, pb b38), (19, .slice A59 (((([] : List ApiEvent) ++ y16) ++ y25).length) cp60), (118, .bool false)]) (by (try simp only [hb69]); kernel_rfl) ?_
          refine oP (r := []) [11, 12, 13, 14, 15, 16, 17, 18, 19, 20, 21, 22, 23, 24, 25, 26, 27, 28, 29, 30, 31, 32, 33, 34, 35] (S' := [(8, .bool false)]) (by kernel_rfl) ?_
          refine oD ?_
          have hI := hI.drop
          have hI := hI.drop
          have hI := hI.drop
          have hI := hI.drop
          have hI := hI.drop
          have hI := hI.drop
          have e := someS h1
          subst e
          exact Qn.thenJ fun a ha => ⟨false, Z61, rfl, ha.keep [8] (by kernel_rfl), hI, (Hp.le_refl _)⟩
        ·
         rw [if_neg hb68] at h1
         have hb68 : y53 = false := by simpa using hb68
         refine oK [1, 2, 11, 13, 15, 17, 19, 112] (S' := [(1, iv a1), (2, iv a2), (11, pb b20), (13, pb b29), (15, pb b38), (17, pb b54), (19, .slice A59 (((([] : List ApiEvent) ++ y16) ++ y25).length) cp60), (112, .bool false)]) (by (try simp only [hb68]); kernel_rfl) ?_
         refine oP (r := []) [5, 6, 7, 8, 9, 10, 11, 12, 13, 14, 15, 16, 17, 18, 19, 20, 21, 22, 23, 24, 25, 26, 27, 28, 29, 30, 31, 32, 33, 34, 35] (S' := [(8, .bool false)]) (by kernel_rfl) ?_
         refine oD ?_
         have hI := hI.drop
         have hI := hI.drop
         have hI := hI.drop
         have hI := hI.drop
         have hI := hI.drop
         have hI := hI.drop
         have e := someS h1
         subst e
         exact Qn.thenJ fun a ha => ⟨false, Z61, rfl, ha.keep [8] (by kernel_rfl), hI, (Hp.le_refl _)⟩
       ·
        rw [if_neg hb67] at h1
        have hb67 : y2 = false := by simpa using hb67
        refine oK [1, 2, 11, 13, 15, 17, 18, 19, 109] (S' := [(1, iv a1), (2, iv a2), (11, pb b20), (13, pb b29), (15, pb b38), (17, pb b54), (18, .bool y53), (19, .slice A59 (((([] : List ApiEvent) ++ y16) ++ y25).length) cp60), (109, .bool false)]) (by (try simp only [hb67]); kernel_rfl) ?_
        refine oP (r := []) [2, 3, 4, 5, 6, 7, 8, 9, 10, 11, 12, 13, 14, 15, 16, 17, 18, 19, 20, 21, 22, 23, 24, 25, 26, 27, 28, 29, 30, 31, 32, 33, 34, 35] (S' := [(8, .bool false)]) (by kernel_rfl) ?_
        refine oD ?_
        have hI := hI.drop
        have hI := hI.drop
        have hI := hI.drop
        have hI := hI.drop
        have hI := hI.drop
        have hI := hI.drop
        have e := someS h1
        subst e
        exact Qn.thenJ fun a ha => ⟨false, Z61, rfl, ha.keep [8] (by kernel_rfl), hI, (Hp.le_refl _)⟩
      ·
       rintro a w ⟨x66, Z64, rfl, ha, hI, hle65⟩
       try dsimp only at h0
       refine CodT.of ?_ ha
       refine CodT.ret ?_
       have e := someS h0
       subst e
       refine qK [8] (S' := [(8, .bool x66)]) (by kernel_rfl) ?_
       exact post_ret (v := .bool x66) (fun a ha => RunRes.run (vs := [.bool x66]) (.tmp (t := 8) (by kernel_rfl) .nil) ha (by kernel_rfl)) ⟨rfl, hI.weaken (Hp.le_trans (Hp.le_trans hle48 hle62) hle65)⟩
end Go.Cen
