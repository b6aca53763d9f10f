/- The walk of the law BundleWhole, printed by a program of ours. -/
import Derived.Test.YtlojedndicppeaaDoorWx3
set_option linter.unusedVariables false
set_option linter.unusedSimpArgs false
namespace Go.Cen
set_option maxRecDepth 100000
set_option maxHeartbeats 4000000
/-- cenotaph/cenotaphlaw11.BundleWhole -/
theorem c5 (w0 w : World) (Z : Hp) (A : HP) (hI : Inv w0 Z w A) (hT : Tabs Z) (A_a0 : Option Addr) (c_a0 : Nat) (a0 : (List ApiEvent)) (hr_a0 : RdS Z c_ApiEvent 37 A_a0 c_a0 a0) (a1 : Int) (r : Bool) (h0 : law11_BundleWhole a0 a1 = some r) :
  Calls prog 5 #[.slice A_a0 a0.length c_a0, iv a1] w (fun e w' => e = .returned (.bool r) ∧ Inv w0 Z w' A) := by
 have e4 := calls_intro (R := (fun e w' => e = .returned (.bool r) ∧ Inv w0 Z w' A)) (w := w) (args := [.slice A_a0 a0.length c_a0, iv a1]) (fn := Go.Proofs.Tryd.f5) 110 Go.Proofs.Tryd.func5 (by rfl) Go.Proofs.Tryd.ntmps5 (by kernel_rfl)
 refine e4 ?_
 clear e4
 unfold law11_BundleWhole at h0
 refine cQ ?_
 refine cR [0] (by kernel_rfl) ?_
 refine oP (r := []) [0] (S' := [(0, .slice A_a0 a0.length c_a0), (1, iv a1)]) (by kernel_rfl) ?_
 refine oD ?_
 refine qT ?_
 refine cQ ?_
 refine cR [0, 1] (by kernel_rfl) ?_
 obtain ⟨y2, hc1, h0⟩ := bindS h0
 try dsimp only at h0
 refine oC (Does.call (d := some 15) (n := 7) (vs := []) (by kernel_rfl) en7 (c7 w0 w _ _ hI hT _ hc1) ?_)
 rintro e w ⟨rfl, hI⟩
 refine ⟨_, rfl, ?_⟩
 refine oP (r := []) [1] (S' := [(0, .slice A_a0 a0.length c_a0), (1, iv a1), (5, .bool y2)]) (by kernel_rfl) ?_
 refine oD ?_
 refine qT ?_
 refine cQ ?_
 refine cQ ?_
 refine cR [0, 1] (by kernel_rfl) ?_
 refine oP (r := []) [0, 1] (S' := [(0, .slice A_a0 a0.length c_a0), (1, iv a1), (5, .bool y2), (17, .bool (!y2))]) (by kernel_rfl) ?_
 refine oD ?_
 refine qT ?_
 by_cases hb3 : (!y2) = true
 ·
  rw [if_pos hb3] at h0
  refine CodT.yes' (b := !y2) (by kernel_rfl) hb3 ?_
  refine cQ ?_
  refine cR [0] (by kernel_rfl) ?_
  refine oP (r := []) [0] (S' := [(4, .bool false)]) (by kernel_rfl) ?_
  refine oD ?_
  refine qT ?_
  refine CodT.ret ?_
  refine Qn.ret_then ?_
  have e := someS h0
  subst e
  refine qK [4] (S' := [(4, .bool false)]) (by kernel_rfl) ?_
  exact post_ret (v := .bool false) (fun a ha => RunRes.run (vs := [.bool false]) (.tmp (t := 4) (by kernel_rfl) .nil) ha (by kernel_rfl)) ⟨rfl, hI⟩
 ·
  rw [if_neg hb3] at h0
  refine CodT.no' (b := !y2) (by kernel_rfl) (by simpa using hb3) ?_
  refine CodT.skip ?_
  refine qT ?_
  refine cQ ?_
  refine cR [0, 1, 2] (by kernel_rfl) ?_
  refine oP (r := [1, 2]) [0] (S' := [(0, .slice A_a0 a0.length c_a0), (1, iv a1), (5, .bool y2), (18, .slice A_a0 a0.length c_a0)]) (by kernel_rfl) ?_
  obtain ⟨y5, hc4, h0⟩ := bindS h0
  try dsimp only at h0
  refine oC (Does.call (d := some 19) (n := 8) (vs := [.slice A_a0 a0.length c_a0]) (by kernel_rfl) en8 (c8 w0 w _ _ hI hT A_a0 c_a0 a0 hr_a0 _ hc4) ?_)
  rintro e w ⟨rfl, hI⟩
  refine ⟨_, rfl, ?_⟩
  refine oP (r := []) [2] (S' := [(0, .slice A_a0 a0.length c_a0), (1, iv a1), (5, .bool y2), (6, .bool y5)]) (by kernel_rfl) ?_
  refine oD ?_
  refine qT ?_
  refine cQ ?_
  obtain ⟨r1, h1, h0⟩ := bindS h0
  refine CodT.meet (fun a w => ∃ (x6 : Bool), x6 = r1 ∧ Fr 110 [(0, .slice A_a0 a0.length c_a0), (1, iv a1), (5, .bool y2), (31, .bool x6)] a ∧ Inv w0 Z w A) ?_ ?_
  ·
   refine cR [0, 1, 2, 3, 4, 5, 6, 7, 8, 9, 10, 11] (by kernel_rfl) ?_
   refine oP (r := [3, 4, 5, 6, 7, 8, 9, 10, 11]) [0, 1, 2] (S' := [(0, .slice A_a0 a0.length c_a0), (1, iv a1), (5, .bool y2), (22, .bool (!y5))]) (by kernel_rfl) ?_
   by_cases hb7 : (!y5) = true
   ·
    rw [if_pos hb7] at h1
    refine oK [0, 1, 5, 22] (S' := [(0, .slice A_a0 a0.length c_a0), (1, iv a1), (5, .bool y2), (22, .bool true)]) (by (try simp only [hb7]); kernel_rfl) ?_
    refine oP (r := []) [3, 4, 5, 6, 7, 8, 9, 10, 11] (S' := [(0, .slice A_a0 a0.length c_a0), (1, iv a1), (5, .bool y2), (31, .bool true)]) (by kernel_rfl) ?_
    refine oD ?_
    have e := someS h1
    subst e
    exact Qn.thenJ fun a ha => ⟨true, rfl, ha.keep [0, 1, 5, 31] (by kernel_rfl), hI⟩
   ·
    rw [if_neg hb7] at h1
    have hb7 : (!y5) = false := by simpa using hb7
    refine oK [0, 1, 5, 22] (S' := [(0, .slice A_a0 a0.length c_a0), (1, iv a1), (5, .bool y2), (22, .bool false)]) (by (try simp only [hb7]); kernel_rfl) ?_
    refine oP (r := [7, 8, 9, 10, 11]) [3, 4, 5, 6] (S' := [(0, .slice A_a0 a0.length c_a0), (1, iv a1), (5, .bool y2), (26, .bool (decide (a1 < 0)))]) (by kernel_rfl) ?_
    by_cases hb8 : (decide (a1 < 0)) = true
    ·
     rw [if_pos hb8] at h1
     refine oK [0, 1, 5, 26] (S' := [(0, .slice A_a0 a0.length c_a0), (1, iv a1), (5, .bool y2), (26, .bool true)]) (by (try simp only [hb8]); kernel_rfl) ?_
     refine oP (r := []) [7, 8, 9, 10, 11] (S' := [(0, .slice A_a0 a0.length c_a0), (1, iv a1), (5, .bool y2), (31, .bool true)]) (by kernel_rfl) ?_
     refine oD ?_
     have e := someS h1
     subst e
     exact Qn.thenJ fun a ha => ⟨true, rfl, ha.keep [0, 1, 5, 31] (by kernel_rfl), hI⟩
    ·
     rw [if_neg hb8] at h1
     have hb8 : (decide (a1 < 0)) = false := by simpa using hb8
     refine oK [0, 1, 5, 26] (S' := [(0, .slice A_a0 a0.length c_a0), (1, iv a1), (5, .bool y2), (26, .bool false)]) (by (try simp only [hb8]); kernel_rfl) ?_
     refine oP (r := []) [7, 8, 9, 10, 11] (S' := [(0, .slice A_a0 a0.length c_a0), (1, iv a1), (5, .bool y2), (31, .bool (decide (a1 > (a0.length : Int))))]) (by kernel_rfl) ?_
     refine oD ?_
     have e := someS h1
     subst e
     exact Qn.thenJ fun a ha => ⟨decide (a1 > (a0.length : Int)), rfl, ha.keep [0, 1, 5, 31] (by kernel_rfl), hI⟩
  ·
   rintro a w ⟨x6, rfl, ha, hI⟩
   try dsimp only at h0
   refine CodT.of ?_ ha
   by_cases hb9 : x6 = true
   ·
    rw [if_pos hb9] at h0
    refine CodT.yes' (b := x6) (by kernel_rfl) hb9 ?_
    refine cQ ?_
    refine cR [0, 1] (by kernel_rfl) ?_
    refine oP (r := []) [0, 1] (S' := [(4, .bool y2)]) (by kernel_rfl) ?_
    refine oD ?_
    refine qT ?_
    refine CodT.ret ?_
    refine Qn.ret_then ?_
    have e := someS h0
    subst e
    refine qK [4] (S' := [(4, .bool y2)]) (by kernel_rfl) ?_
    exact post_ret (v := .bool y2) (fun a ha => RunRes.run (vs := [.bool y2]) (.tmp (t := 4) (by kernel_rfl) .nil) ha (by kernel_rfl)) ⟨rfl, hI⟩
   ·
    rw [if_neg hb9] at h0
    refine CodT.no' (b := x6) (by kernel_rfl) (by simpa using hb9) ?_
    refine CodT.skip ?_
    refine qT ?_
    refine cQ ?_
    refine cR [0, 1, 2, 3, 4, 5, 6, 7, 8, 9] (by kernel_rfl) ?_
    refine oP (r := [3, 4, 5, 6, 7, 8, 9]) [0, 1, 2] (S' := [(0, .slice A_a0 a0.length c_a0), (1, iv a1), (5, .bool y2), (34, .slice A_a0 a0.length c_a0), (36, iv (a0.length : Int))]) (by kernel_rfl) ?_
    obtain ⟨⟨y11, y12, y14, y17⟩, hc10, h0⟩ := bindS h0
    try dsimp only at h0
    refine oC (Does.call (d := some 37) (n := 14) (vs := [.slice A_a0 a0.length c_a0, iv 0, iv (a0.length : Int)]) (by kernel_rfl) en14 (c14 w0 w _ _ hI hT A_a0 c_a0 a0 hr_a0 0 (a0.length : Int) _ hc10) ?_)
    rintro e w ⟨A15, cp16, rfl, hl13, hI⟩
    refine ⟨_, rfl, ?_⟩
    refine oP (r := [7, 8, 9]) [4, 5, 6] (S' := [(0, .slice A_a0 a0.length c_a0), (1, iv a1), (5, .bool y2), (38, .agg ((([iv y11] : LV) ++ (cA (Value.int .u8) y12) ++ ([.slice A15 y14.length cp16] : LV))).toArray), (39, .bool y17)]) (by kernel_rfl) ?_
    refine oC (Does.allocL (d := 7) (T := 26) ((([iv 0] : LV) ++ (cA (Value.int .u8) (List.replicate 32 (0 : Int))) ++ ([.slice none 0 0] : LV))) (by kernel_rfl) ty26 hI (by kernel_rfl) ?_)
    intro b18 w hI
    refine oC (dS (T := 26) (b := b18) (o := 0) (v := .agg ((([iv y11] : LV) ++ (cA (Value.int .u8) y12) ++ ([.slice A15 y14.length cp16] : LV))).toArray) (l := (([iv 0] : LV) ++ (cA (Value.int .u8) (List.replicate 32 (0 : Int))) ++ ([.slice none 0 0] : LV))) (vs := (([iv y11] : LV) ++ (cA (Value.int .u8) y12) ++ ([.slice A15 y14.length cp16] : LV))) (L' := (([iv y11] : LV) ++ (cA (Value.int .u8) y12) ++ ([.slice A15 y14.length cp16] : LV))) (by kernel_rfl) ty26 hI (by kernel_rfl) (by simp [cA_length, hl13]) (by rw [show List.length _ = 34 from (by simp [cA_length])]; kernel_rfl) (ones_app _ _ (ones_app _ _ (by kernel_rfl) (ones_cA _)) (by kernel_rfl)) (lset_all _ _ (Eq.trans (show List.length _ = 34 from (by simp [cA_length, hl13])) (Eq.symm (show List.length _ = 34 from (by simp [cA_length]))))) ?_)
    intro w hI
    refine oP (r := []) [9] (S' := [(0, .slice A_a0 a0.length c_a0), (1, iv a1), (5, .bool y2), (7, pb b18), (8, .bool y17)]) (by kernel_rfl) ?_
    refine oD ?_
    refine qT ?_
    refine cQ ?_
    refine cR [0, 1, 2, 3, 4, 5, 6, 7, 8] (by kernel_rfl) ?_
    refine oP (r := [2, 3, 4, 5, 6, 7, 8]) [0, 1] (S' := [(0, .slice A_a0 a0.length c_a0), (1, iv a1), (5, .bool y2), (7, pb b18), (8, .bool y17), (41, .slice A_a0 a0.length c_a0), (42, iv a1)]) (by kernel_rfl) ?_
    obtain ⟨⟨y20, y21, y23, y26⟩, hc19, h0⟩ := bindS h0
    try dsimp only at h0
    refine oC (Does.call (d := some 43) (n := 14) (vs := [.slice A_a0 a0.length c_a0, iv 0, iv a1]) (by kernel_rfl) en14 (c14 w0 w _ _ hI hT A_a0 c_a0 a0 hr_a0 0 a1 _ hc19) ?_)
    rintro e w ⟨A24, cp25, rfl, hl22, hI⟩
    refine ⟨_, rfl, ?_⟩
    refine oP (r := [6, 7, 8]) [3, 4, 5] (S' := [(0, .slice A_a0 a0.length c_a0), (1, iv a1), (5, .bool y2), (7, pb b18), (8, .bool y17), (44, .agg ((([iv y20] : LV) ++ (cA (Value.int .u8) y21) ++ ([.slice A24 y23.length cp25] : LV))).toArray), (45, .bool y26)]) (by kernel_rfl) ?_
    refine oC (Does.allocL (d := 9) (T := 26) ((([iv 0] : LV) ++ (cA (Value.int .u8) (List.replicate 32 (0 : Int))) ++ ([.slice none 0 0] : LV))) (by kernel_rfl) ty26 hI (by kernel_rfl) ?_)
    intro b27 w hI
    refine oC (dS (T := 26) (b := b27) (o := 0) (v := .agg ((([iv y20] : LV) ++ (cA (Value.int .u8) y21) ++ ([.slice A24 y23.length cp25] : LV))).toArray) (l := (([iv 0] : LV) ++ (cA (Value.int .u8) (List.replicate 32 (0 : Int))) ++ ([.slice none 0 0] : LV))) (vs := (([iv y20] : LV) ++ (cA (Value.int .u8) y21) ++ ([.slice A24 y23.length cp25] : LV))) (L' := (([iv y20] : LV) ++ (cA (Value.int .u8) y21) ++ ([.slice A24 y23.length cp25] : LV))) (by kernel_rfl) ty26 hI (by kernel_rfl) (by simp [cA_length, hl22]) (by rw [show List.length _ = 34 from (by simp [cA_length])]; kernel_rfl) (ones_app _ _ (ones_app _ _ (by kernel_rfl) (ones_cA _)) (by kernel_rfl)) (lset_all _ _ (Eq.trans (show List.length _ = 34 from (by simp [cA_length, hl22])) (Eq.symm (show List.length _ = 34 from (by simp [cA_length]))))) ?_)
    intro w hI
    refine oP (r := []) [8] (S' := [(0, .slice A_a0 a0.length c_a0), (1, iv a1), (5, .bool y2), (7, pb b18), (8, .bool y17), (9, pb b27), (10, .bool y26)]) (by kernel_rfl) ?_
    refine oD ?_
    refine qT ?_
    refine cQ ?_
    obtain ⟨r1, h1, h0⟩ := bindS h0
    refine CodT.meet (fun a w => ∃ (x28 : Bool), x28 = r1 ∧ Fr 110 [(0, .slice A_a0 a0.length c_a0), (1, iv a1), (5, .bool y2), (7, pb b18), (8, .bool y17), (9, pb b27), (10, .bool y26), (51, .bool x28)] a ∧ Inv w0 Z w (star (pt b27 (.cells ((([iv y20] : LV) ++ (cA (Value.int .u8) y21) ++ ([.slice A24 y23.length cp25] : LV))).toArray 26 (0, 0))) (star (pt b18 (.cells ((([iv y11] : LV) ++ (cA (Value.int .u8) y12) ++ ([.slice A15 y14.length cp16] : LV))).toArray 26 (0, 0))) (star (ownS 40 c_ApiEvent 37 A24 cp25 y23) (star (ownS 40 c_ApiEvent 37 A15 cp16 y14) A))))) ?_ ?_
    ·
     refine cR [0, 1, 2, 3, 4, 5] (by kernel_rfl) ?_
     refine oP (r := [3, 4, 5]) [0, 1, 2] (S' := [(0, .slice A_a0 a0.length c_a0), (1, iv a1), (5, .bool y2), (7, pb b18), (8, .bool y17), (9, pb b27), (10, .bool y26), (48, .bool (!y17))]) (by kernel_rfl) ?_
     by_cases hb29 : (!y17) = true
     ·
      rw [if_pos hb29] at h1
      refine oK [0, 1, 5, 7, 8, 9, 10, 48] (S' := [(0, .slice A_a0 a0.length c_a0), (1, iv a1), (5, .bool y2), (7, pb b18), (8, .bool y17), (9, pb b27), (10, .bool y26), (48, .bool true)]) (by (try simp only [hb29]); kernel_rfl) ?_
      refine oP (r := []) [3, 4, 5] (S' := [(0, .slice A_a0 a0.length c_a0), (1, iv a1), (5, .bool y2), (7, pb b18), (8, .bool y17), (9, pb b27), (10, .bool y26), (51, .bool true)]) (by kernel_rfl) ?_
      refine oD ?_
      have hI := hI.mono (pick4 _ _ _ _ _)
      have hI := hI.mono (pick3 _ _ _ _)
      have hI := hI.mono (pick4 _ _ _ _ _)
      have hI := hI.mono (pick4 _ _ _ _ _)
      have e := someS h1
      subst e
      exact Qn.thenJ fun a ha => ⟨true, rfl, ha.keep [0, 1, 5, 7, 8, 9, 10, 51] (by kernel_rfl), hI⟩
     ·
      rw [if_neg hb29] at h1
      have hb29 : (!y17) = false := by simpa using hb29
      refine oK [0, 1, 5, 7, 8, 9, 10, 48] (S' := [(0, .slice A_a0 a0.length c_a0), (1, iv a1), (5, .bool y2), (7, pb b18), (8, .bool y17), (9, pb b27), (10, .bool y26), (48, .bool false)]) (by (try simp only [hb29]); kernel_rfl) ?_
      refine oP (r := []) [3, 4, 5] (S' := [(0, .slice A_a0 a0.length c_a0), (1, iv a1), (5, .bool y2), (7, pb b18), (8, .bool y17), (9, pb b27), (10, .bool y26), (51, .bool (!y26))]) (by kernel_rfl) ?_
      refine oD ?_
      have hI := hI.mono (pick4 _ _ _ _ _)
      have hI := hI.mono (pick3 _ _ _ _)
      have hI := hI.mono (pick4 _ _ _ _ _)
      have hI := hI.mono (pick4 _ _ _ _ _)
      have e := someS h1
      subst e
      exact Qn.thenJ fun a ha => ⟨!y26, rfl, ha.keep [0, 1, 5, 7, 8, 9, 10, 51] (by kernel_rfl), hI⟩
    ·
     rintro a w ⟨x28, rfl, ha, hI⟩
     try dsimp only at h0
     refine CodT.of ?_ ha
     by_cases hb30 : x28 = true
     ·
      rw [if_pos hb30] at h0
      refine CodT.yes' (b := x28) (by kernel_rfl) hb30 ?_
      obtain ⟨r1, h1, h0⟩ := bindS h0
      refine CodT.meet (fun a w => ∃ (x31 : Bool), x31 = r1 ∧ Fr 110 [(4, .bool x31)] a ∧ Inv w0 Z w A) ?_ ?_
      ·
       refine cR [0, 1, 2, 3, 4, 5, 6, 7, 8, 9] (by kernel_rfl) ?_
       refine oP (r := [2, 3, 4, 5, 6, 7, 8, 9]) [0, 1] (S' := [(8, .bool y17), (10, .bool y26), (53, .bool y2)]) (by kernel_rfl) ?_
       by_cases hb32 : y2 = true
       ·
        rw [if_pos hb32] at h1
        refine oK [8, 10, 53] (S' := [(8, .bool y17), (10, .bool y26), (53, .bool true)]) (by (try simp only [hb32]); kernel_rfl) ?_
        refine oP (r := [6, 7, 8, 9]) [2, 3, 4, 5] (S' := [(10, .bool y26), (57, .bool (!y17))]) (by kernel_rfl) ?_
        by_cases hb33 : (!y17) = true
        ·
         rw [if_pos hb33] at h1
         refine oK [10, 57] (S' := [(10, .bool y26), (57, .bool true)]) (by (try simp only [hb33]); kernel_rfl) ?_
         refine oP (r := []) [6, 7, 8, 9] (S' := [(4, .bool (!y26))]) (by kernel_rfl) ?_
         refine oD ?_
         have hI := hI.drop
         have hI := hI.drop
         have hI := hI.drop
         have hI := hI.drop
         have e := someS h1
         subst e
         exact Qn.thenJ fun a ha => ⟨!y26, rfl, ha.keep [4] (by kernel_rfl), hI⟩
        ·
         rw [if_neg hb33] at h1
         have hb33 : (!y17) = false := by simpa using hb33
         refine oK [10, 57] (S' := [(10, .bool y26), (57, .bool false)]) (by (try simp only [hb33]); kernel_rfl) ?_
         refine oP (r := []) [6, 7, 8, 9] (S' := [(4, .bool false)]) (by kernel_rfl) ?_
         refine oD ?_
         have hI := hI.drop
         have hI := hI.drop
         have hI := hI.drop
         have hI := hI.drop
         have e := someS h1
         subst e
         exact Qn.thenJ fun a ha => ⟨false, rfl, ha.keep [4] (by kernel_rfl), hI⟩
       ·
        rw [if_neg hb32] at h1
        have hb32 : y2 = false := by simpa using hb32
        refine oK [8, 10, 53] (S' := [(8, .bool y17), (10, .bool y26), (53, .bool false)]) (by (try simp only [hb32]); kernel_rfl) ?_
        refine oP (r := []) [2, 3, 4, 5, 6, 7, 8, 9] (S' := [(4, .bool false)]) (by kernel_rfl) ?_
        refine oD ?_
        have hI := hI.drop
        have hI := hI.drop
        have hI := hI.drop
        have hI := hI.drop
        have e := someS h1
        subst e
        exact Qn.thenJ fun a ha => ⟨false, rfl, ha.keep [4] (by kernel_rfl), hI⟩
      ·
       rintro a w ⟨x31, rfl, ha, hI⟩
       try dsimp only at h0
       refine CodT.of ?_ ha
       refine CodT.ret ?_
       refine Qn.ret_then ?_
       have e := someS h0
       subst e
       refine qK [4] (S' := [(4, .bool x31)]) (by kernel_rfl) ?_
       exact post_ret (v := .bool x31) (fun a ha => RunRes.run (vs := [.bool x31]) (.tmp (t := 4) (by kernel_rfl) .nil) ha (by kernel_rfl)) ⟨rfl, hI⟩
     ·
      rw [if_neg hb30] at h0
      refine CodT.no' (b := x28) (by kernel_rfl) (by simpa using hb30) ?_
      refine CodT.skip ?_
      refine qT ?_
      refine cQ ?_
      refine cR [0, 1, 2, 3, 4, 5, 6] (by kernel_rfl) ?_
      refine oC (Does.yi (Yl.load (d := 62) (T := 26) (v := .agg ((([iv y11] : LV) ++ (cA (Value.int .u8) y12) ++ ([.slice A15 y14.length cp16] : LV))).toArray) (by kernel_rfl) (ldBN ty26 (l := (([iv y11] : LV) ++ (cA (Value.int .u8) y12) ++ ([.slice A15 y14.length cp16] : LV))) (o := 0) (cs := (([iv y11] : LV) ++ (cA (Value.int .u8) y12) ++ ([.slice A15 y14.length cp16] : LV))) (pick2 _ _ _) (by simp [cA_length, hl13]) (whole _ _ (by simp [cA_length, hl13])))) hI ?_)
      have hI := hI.mono (pick4 _ _ _ _ _)
      obtain ⟨Z34, hle35, hr36, hI⟩ := ownS_freeze hI
      obtain ⟨⟨y38, y39⟩, hc37, h0⟩ := bindS h0
      try dsimp only at h0
      refine oC (Does.call (d := some 63) (n := 9) (vs := [.agg ((([iv y11] : LV) ++ (cA (Value.int .u8) y12) ++ ([.slice A15 y14.length cp16] : LV))).toArray]) (by kernel_rfl) en9 (c9 w0 w _ _ hI (hT.mono hle35) y11 y12 hl13 A15 cp16 y14 hr36 _ hc37) ?_)
      rintro e w ⟨rfl, hI⟩
      refine ⟨_, rfl, ?_⟩
      refine oP (r := []) [2, 3, 4, 5, 6] (S' := [(0, .slice A_a0 a0.length c_a0), (1, iv a1), (5, .bool y2), (7, pb b18), (9, pb b27), (11, .string y38), (12, .bool y39)]) (by kernel_rfl) ?_
      refine oD ?_
      refine qT ?_
      refine cQ ?_
      refine cR [0, 1, 2, 3, 4, 5, 6] (by kernel_rfl) ?_
      refine oC (Does.yi (Yl.load (d := 67) (T := 26) (v := .agg ((([iv y20] : LV) ++ (cA (Value.int .u8) y21) ++ ([.slice A24 y23.length cp25] : LV))).toArray) (by kernel_rfl) (ldBN ty26 (l := (([iv y20] : LV) ++ (cA (Value.int .u8) y21) ++ ([.slice A24 y23.length cp25] : LV))) (o := 0) (cs := (([iv y20] : LV) ++ (cA (Value.int .u8) y21) ++ ([.slice A24 y23.length cp25] : LV))) (ent_refl _) (by simp [cA_length, hl22]) (whole _ _ (by simp [cA_length, hl22])))) hI ?_)
      have hI := hI.mono (pick3 _ _ _ _)
      obtain ⟨Z40, hle41, hr42, hI⟩ := ownS_freeze hI
      obtain ⟨⟨y44, y45⟩, hc43, h0⟩ := bindS h0
      try dsimp only at h0
      refine oC (Does.call (d := some 68) (n := 9) (vs := [.agg ((([iv y20] : LV) ++ (cA (Value.int .u8) y21) ++ ([.slice A24 y23.length cp25] : LV))).toArray]) (by kernel_rfl) en9 (c9 w0 w _ _ hI (hT.mono (Hp.le_trans hle35 hle41)) y20 y21 hl22 A24 cp25 y23 hr42 _ hc43) ?_)
      rintro e w ⟨rfl, hI⟩
      refine ⟨_, rfl, ?_⟩
      refine oP (r := []) [2, 3, 4, 5, 6] (S' := [(0, .slice A_a0 a0.length c_a0), (1, iv a1), (5, .bool y2), (7, pb b18), (9, pb b27), (11, .string y38), (12, .bool y39), (13, .string y44), (14, .bool y45)]) (by kernel_rfl) ?_
      refine oD ?_
      refine qT ?_
      obtain ⟨r1, h1, h0⟩ := bindS h0
      refine CodT.meet (fun a w => ∃ (x46 : Bool), x46 = r1 ∧ Fr 110 [(4, .bool x46)] a ∧ Inv w0 Z40 w A) ?_ ?_
      ·
       refine CodT.drawI (n := 40) [] (by kernel_rfl) (by kernel_rfl) hI ?_
       intro w hI
       refine GmT.p' 0 71 (.bool y2) (by kernel_rfl) (by kernel_rfl) ?_
       refine GmT.p' 1 72 (.bool y2) (by kernel_rfl) (by kernel_rfl) ?_
       by_cases hb47 : y2 = true
       ·
        rw [if_pos hb47] at h1
        refine GmT.keep [0, 1, 7, 9, 11, 12, 13, 14, 72] (S' := [(0, .slice A_a0 a0.length c_a0), (1, iv a1), (7, pb b18), (9, pb b27), (11, .string y38), (12, .bool y39), (13, .string y44), (14, .bool y45), (72, .bool true)]) (by (try simp only [hb47]); kernel_rfl) ?_
        refine GmT.p' 2 73 (.bool y39) (by kernel_rfl) (by kernel_rfl) ?_
        refine GmT.p' 3 74 (.bool y39) (by kernel_rfl) (by kernel_rfl) ?_
        refine GmT.p' 4 75 (.bool y39) (by kernel_rfl) (by kernel_rfl) ?_
        by_cases hb48 : y39 = true
        ·
         rw [if_pos hb48] at h1
         refine GmT.keep [0, 1, 7, 9, 11, 13, 14, 75] (S' := [(0, .slice A_a0 a0.length c_a0), (1, iv a1), (7, pb b18), (9, pb b27), (11, .string y38), (13, .string y44), (14, .bool y45), (75, .bool true)]) (by (try simp only [hb48]); kernel_rfl) ?_
         refine GmT.p' 5 76 (.bool y45) (by kernel_rfl) (by kernel_rfl) ?_
         refine GmT.p' 6 77 (.bool y45) (by kernel_rfl) (by kernel_rfl) ?_
         refine GmT.p' 7 78 (.bool y45) (by kernel_rfl) (by kernel_rfl) ?_
         by_cases hb49 : y45 = true
         ·
          rw [if_pos hb49] at h1
          refine GmT.keep [0, 1, 7, 9, 11, 13, 78] (S' := [(0, .slice A_a0 a0.length c_a0), (1, iv a1), (7, pb b18), (9, pb b27), (11, .string y38), (13, .string y44), (78, .bool true)]) (by (try simp only [hb49]); kernel_rfl) ?_
          refine GmT.p' 8 79 (.pointer (some ⟨b18, 1, none⟩)) (by kernel_rfl) (by kernel_rfl) ?_
          refine GmT.r (i := 9) 2 (by kernel_rfl) (by kernel_rfl) (Yl.load (d := 80) (T := 23) (v := .agg (cA (Value.int .u8) y12).toArray) (by kernel_rfl) (ldBN ty23 (l := (([iv y11] : LV) ++ (cA (Value.int .u8) y12) ++ ([.slice A15 y14.length cp16] : LV))) (o := 1) (cs := cA (Value.int .u8) y12) (pick2 _ _ _) ((cA_length _ _).trans hl13) (seg_take [([iv y11] : LV), cA (Value.int .u8) y12, ([.slice A15 y14.length cp16] : LV)] 1 1 (by simp [cA_length, hl13]) (by simp [cA_length, hl13]) (by simp [cA_length, hl13]) (by simp [cA_length, hl13])))) hI ?_
          obtain ⟨y51, hc50, h1⟩ := bindS h1
          try dsimp only at h1
          refine GmT.o (i := 10) (by kernel_rfl) (Does.call (d := some 81) (n := 15) (vs := []) (by kernel_rfl) en15 (c15 w0 w _ _ hI (hT.mono (Hp.le_trans hle35 hle41)) _ hc50) ?_)
          rintro e w ⟨rfl, hl52, hI⟩
          refine ⟨_, rfl, ?_⟩
          refine ⟨fun _ _ => hI, ?_⟩
          refine GmT.r (i := 11) 2 (by kernel_rfl) (by kernel_rfl) (Yl.eqlA (k := .u8) (d := 82) (T := 23) (xs := y12) (ys := y51) (by kernel_rfl) Go.Proofs.Tryd.underlying23 (by kernel_rfl) Go.Proofs.Tryd.underlying5 ty5 hl13 hl52) hI ?_
          refine GmT.p' 12 83 (.bool (eqA y12 y51)) (by kernel_rfl) (by kernel_rfl) ?_
          refine GmT.p' 13 84 (.bool (eqA y12 y51)) (by kernel_rfl) (by kernel_rfl) ?_
          by_cases hb53 : (eqA y12 y51) = true
          ·
           rw [if_pos hb53] at h1
           refine GmT.keep [0, 1, 7, 9, 11, 13, 84] (S' := [(0, .slice A_a0 a0.length c_a0), (1, iv a1), (7, pb b18), (9, pb b27), (11, .string y38), (13, .string y44), (84, .bool true)]) (by (try simp only [hb53]); kernel_rfl) ?_
           refine GmT.p' 14 85 (.pointer (some ⟨b18, 1, none⟩)) (by kernel_rfl) (by kernel_rfl) ?_
           refine GmT.p' 16 87 (.pointer (some ⟨b27, 1, none⟩)) (by kernel_rfl) (by kernel_rfl) ?_
           refine GmT.r (i := 15) 2 (by kernel_rfl) (by kernel_rfl) (Yl.load (d := 86) (T := 23) (v := .agg (cA (Value.int .u8) y12).toArray) (by kernel_rfl) (ldBN ty23 (l := (([iv y11] : LV) ++ (cA (Value.int .u8) y12) ++ ([.slice A15 y14.length cp16] : LV))) (o := 1) (cs := cA (Value.int .u8) y12) (pick2 _ _ _) ((cA_length _ _).trans hl13) (seg_take [([iv y11] : LV), cA (Value.int .u8) y12, ([.slice A15 y14.length cp16] : LV)] 1 1 (by simp [cA_length, hl13]) (by simp [cA_length, hl13]) (by simp [cA_length, hl13]) (by simp [cA_length, hl13])))) hI ?_
           refine GmT.r (i := 17) 2 (by kernel_rfl) (by kernel_rfl) (Yl.load (d := 88) (T := 23) (v := .agg (cA (Value.int .u8) y21).toArray) (by kernel_rfl) (ldBN ty23 (l := (([iv y20] : LV) ++ (cA (Value.int .u8) y21) ++ ([.slice A24 y23.length cp25] : LV))) (o := 1) (cs := cA (Value.int .u8) y21) (ent_refl _) ((cA_length _ _).trans hl22) (seg_take [([iv y20] : LV), cA (Value.int .u8) y21, ([.slice A24 y23.length cp25] : LV)] 1 1 (by simp [cA_length, hl22]) (by simp [cA_length, hl22]) (by simp [cA_length, hl22]) (by simp [cA_length, hl22])))) hI ?_
           refine GmT.r (i := 18) 2 (by kernel_rfl) (by kernel_rfl) (Yl.eqlA (k := .u8) (d := 89) (T := 23) (xs := y12) (ys := y21) (by kernel_rfl) Go.Proofs.Tryd.underlying23 (by kernel_rfl) Go.Proofs.Tryd.underlying5 ty5 hl13 hl22) hI ?_
           refine GmT.p' 19 90 (.bool (eqA y12 y21)) (by kernel_rfl) (by kernel_rfl) ?_
           refine GmT.p' 20 91 (.bool (eqA y12 y21)) (by kernel_rfl) (by kernel_rfl) ?_
           by_cases hb54 : (eqA y12 y21) = true
           ·
            rw [if_pos hb54] at h1
            refine GmT.keep [0, 1, 11, 13, 91] (S' := [(0, .slice A_a0 a0.length c_a0), (1, iv a1), (11, .string y38), (13, .string y44), (91, .bool true)]) (by (try simp only [hb54]); kernel_rfl) ?_
            refine GmT.p' 21 92 (.string y44) (by kernel_rfl) (by kernel_rfl) ?_
            refine GmT.p' 22 93 (iv (y44.size : Int)) (by kernel_rfl) (by kernel_rfl) ?_
            refine GmT.p' 23 94 (.string y38) (by kernel_rfl) (by kernel_rfl) ?_
            refine GmT.p' 24 95 (iv (y38.size : Int)) (by kernel_rfl) (by kernel_rfl) ?_
            refine GmT.p' 25 96 (.bool (decide ((y44.size : Int) ≤ (y38.size : Int)))) (by kernel_rfl) (by kernel_rfl) ?_
            refine GmT.p' 26 97 (.bool (decide ((y44.size : Int) ≤ (y38.size : Int)))) (by kernel_rfl) (by kernel_rfl) ?_
            refine GmT.p' 27 98 (.bool (decide ((y44.size : Int) ≤ (y38.size : Int)))) (by kernel_rfl) (by kernel_rfl) ?_
            by_cases hb55 : (decide ((y44.size : Int) ≤ (y38.size : Int))) = true
            ·
             rw [if_pos hb55] at h1
             refine GmT.keep [0, 1, 11, 13, 98] (S' := [(0, .slice A_a0 a0.length c_a0), (1, iv a1), (11, .string y38), (13, .string y44), (98, .bool true)]) (by (try simp only [hb55]); kernel_rfl) ?_
             refine GmT.p' 28 99 (iv a1) (by kernel_rfl) (by kernel_rfl) ?_
             refine GmT.p' 29 100 (.slice A_a0 a0.length c_a0) (by kernel_rfl) (by kernel_rfl) ?_
             refine GmT.p' 30 101 (iv (a0.length : Int)) (by kernel_rfl) (by kernel_rfl) ?_
             refine GmT.p' 31 102 (.bool (a1 == (a0.length : Int))) (by kernel_rfl) (by kernel_rfl) ?_
             refine GmT.p' 32 103 (.string y38) (by kernel_rfl) (by kernel_rfl) ?_
             refine GmT.p' 33 104 (iv (y38.size : Int)) (by kernel_rfl) (by kernel_rfl) ?_
             refine GmT.p' 34 105 (.string y44) (by kernel_rfl) (by kernel_rfl) ?_
             refine GmT.p' 35 106 (iv (y44.size : Int)) (by kernel_rfl) (by kernel_rfl) ?_
             refine GmT.p' 36 107 (.bool ((y38.size : Int) == (y44.size : Int))) (by kernel_rfl) (by kernel_rfl) ?_
             refine GmT.p' 37 108 (.bool ((a1 == (a0.length : Int)) == ((y38.size : Int) == (y44.size : Int)))) (by kernel_rfl) (by kernel_rfl) ?_
             refine GmT.p' 38 109 (.bool ((a1 == (a0.length : Int)) == ((y38.size : Int) == (y44.size : Int)))) (by kernel_rfl) (by kernel_rfl) ?_
             refine GmT.p' 39 4 (.bool ((a1 == (a0.length : Int)) == ((y38.size : Int) == (y44.size : Int)))) (by kernel_rfl) (by kernel_rfl) ?_
             refine GmT.done (by kernel_rfl) ?_
             have hI := hI.drop
             have hI := hI.drop
             have e := someS h1
             subst e
             exact Qn.thenJ fun a ha => ⟨(a1 == (a0.length : Int)) == ((y38.size : Int) == (y44.size : Int)), rfl, ha.keep [4] (by kernel_rfl), hI⟩
            ·
             rw [if_neg hb55] at h1
             have hb55 : (decide ((y44.size : Int) ≤ (y38.size : Int))) = false := by simpa using hb55
             refine GmT.keep [0, 1, 11, 13, 98] (S' := [(0, .slice A_a0 a0.length c_a0), (1, iv a1), (11, .string y38), (13, .string y44), (98, .bool false)]) (by (try simp only [hb55]); kernel_rfl) ?_
             refine GmT.p' 28 99 (undef) (by kernel_rfl) (by kernel_rfl) ?_
             refine GmT.p' 29 100 (undef) (by kernel_rfl) (by kernel_rfl) ?_
             refine GmT.p' 30 101 (undef) (by kernel_rfl) (by kernel_rfl) ?_
             refine GmT.p' 31 102 (undef) (by kernel_rfl) (by kernel_rfl) ?_
             refine GmT.p' 32 103 (undef) (by kernel_rfl) (by kernel_rfl) ?_
             refine GmT.p' 33 104 (undef) (by kernel_rfl) (by kernel_rfl) ?_
             refine GmT.p' 34 105 (undef) (by kernel_rfl) (by kernel_rfl) ?_
             refine GmT.p' 35 106 (undef) (by kernel_rfl) (by kernel_rfl) ?_
             refine GmT.p' 36 107 (undef) (by kernel_rfl) (by kernel_rfl) ?_
             refine GmT.p' 37 108 (undef) (by kernel_rfl) (by kernel_rfl) ?_
             refine GmT.p' 38 109 (.bool false) (by kernel_rfl) (by kernel_rfl) ?_
             refine GmT.p' 39 4 (.bool false) (by kernel_rfl) (by kernel_rfl) ?_
             refine GmT.done (by kernel_rfl) ?_
             have hI := hI.drop
             have hI := hI.drop
             have e := someS h1
             subst e
             exact Qn.thenJ fun a ha => ⟨false, rfl, ha.keep [4] (by kernel_rfl), hI⟩
           ·
            rw [if_neg hb54] at h1
            have hb54 : (eqA y12 y21) = false := by simpa using hb54
            refine GmT.keep [0, 1, 11, 13, 91] (S' := [(0, .slice A_a0 a0.length c_a0), (1, iv a1), (11, .string y38), (13, .string y44), (91, .bool false)]) (by (try simp only [hb54]); kernel_rfl) ?_
            refine GmT.p' 21 92 (undef) (by kernel_rfl) (by kernel_rfl) ?_
            refine GmT.p' 22 93 (undef) (by kernel_rfl) (by kernel_rfl) ?_
            refine GmT.p' 23 94 (undef) (by kernel_rfl) (by kernel_rfl) ?_
            refine GmT.p' 24 95 (undef) (by kernel_rfl) (by kernel_rfl) ?_
            refine GmT.p' 25 96 (undef) (by kernel_rfl) (by kernel_rfl) ?_
            refine GmT.p' 26 97 (.bool false) (by kernel_rfl) (by kernel_rfl) ?_
            refine GmT.p' 27 98 (.bool false) (by kernel_rfl) (by kernel_rfl) ?_
            refine GmT.p' 28 99 (undef) (by kernel_rfl) (by kernel_rfl) ?_
            refine GmT.p' 29 100 (undef) (by kernel_rfl) (by kernel_rfl) ?_
            refine GmT.p' 30 101 (undef) (by kernel_rfl) (by kernel_rfl) ?_
            refine GmT.p' 31 102 (undef) (by kernel_rfl) (by kernel_rfl) ?_
            refine GmT.p' 32 103 (undef) (by kernel_rfl) (by kernel_rfl) ?_
            refine GmT.p' 33 104 (undef) (by kernel_rfl) (by kernel_rfl) ?_
            refine GmT.p' 34 105 (undef) (by kernel_rfl) (by kernel_rfl) ?_
            refine GmT.p' 35 106 (undef) (by kernel_rfl) (by kernel_rfl) ?_
            refine GmT.p' 36 107 (undef) (by kernel_rfl) (by kernel_rfl) ?_
            refine GmT.p' 37 108 (undef) (by kernel_rfl) (by kernel_rfl) ?_
            refine GmT.p' 38 109 (.bool false) (by kernel_rfl) (by kernel_rfl) ?_
            refine GmT.p' 39 4 (.bool false) (by kernel_rfl) (by kernel_rfl) ?_
            refine GmT.done (by kernel_rfl) ?_
            have hI := hI.drop
            have hI := hI.drop
            have e := someS h1
            subst e
            exact Qn.thenJ fun a ha => ⟨false, rfl, ha.keep [4] (by kernel_rfl), hI⟩
          ·
           rw [if_neg hb53] at h1
           have hb53 : (eqA y12 y51) = false := by simpa using hb53
           refine GmT.keep [0, 1, 7, 9, 11, 13, 84] (S' := [(0, .slice A_a0 a0.length c_a0), (1, iv a1), (7, pb b18), (9, pb b27), (11, .string y38), (13, .string y44), (84, .bool false)]) (by (try simp only [hb53]); kernel_rfl) ?_
           refine GmT.p' 14 85 (undef) (by kernel_rfl) (by kernel_rfl) ?_
           refine GmT.p' 15 86 (undef) (by kernel_rfl) (by kernel_rfl) ?_
           refine GmT.p' 16 87 (undef) (by kernel_rfl) (by kernel_rfl) ?_
           refine GmT.p' 17 88 (undef) (by kernel_rfl) (by kernel_rfl) ?_
           refine GmT.p' 18 89 (undef) (by kernel_rfl) (by kernel_rfl) ?_
           refine GmT.p' 19 90 (.bool false) (by kernel_rfl) (by kernel_rfl) ?_
           refine GmT.p' 20 91 (.bool false) (by kernel_rfl) (by kernel_rfl) ?_
           refine GmT.p' 21 92 (undef) (by kernel_rfl) (by kernel_rfl) ?_
           refine GmT.p' 22 93 (undef) (by kernel_rfl) (by kernel_rfl) ?_
           refine GmT.p' 23 94 (undef) (by kernel_rfl) (by kernel_rfl) ?_
           refine GmT.p' 24 95 (undef) (by kernel_rfl) (by kernel_rfl) ?_
           refine GmT.p' 25 96 (undef) (by kernel_rfl) (by kernel_rfl) ?_
           refine GmT.p' 26 97 (.bool false) (by kernel_rfl) (by kernel_rfl) ?_
           refine GmT.p' 27 98 (.bool false) (by kernel_rfl) (by kernel_rfl) ?_
           refine GmT.p' 28 99 (undef) (by kernel_rfl) (by kernel_rfl) ?_
           refine GmT.p' 29 100 (undef) (by kernel_rfl) (by kernel_rfl) ?_
           refine GmT.p' 30 101 (undef) (by kernel_rfl) (by kernel_rfl) ?_
           refine GmT.p' 31 102 (undef) (by kernel_rfl) (by kernel_rfl) ?_
           refine GmT.p' 32 103 (undef) (by kernel_rfl) (by kernel_rfl) ?_
           refine GmT.p' 33 104 (undef) (by kernel_rfl) (by kernel_rfl) ?_
           refine GmT.p' 34 105 (undef) (by kernel_rfl) (by kernel_rfl) ?_
           refine GmT.p' 35 106 (undef) (by kernel_rfl) (by kernel_rfl) ?_
           refine GmT.p' 36 107 (undef) (by kernel_rfl) (by kernel_rfl) ?_
           refine GmT.p' 37 108 (undef) (by kernel_rfl) (by kernel_rfl) ?_
           refine GmT.p' 38 109 (.bool false) (by kernel_rfl) (by kernel_rfl) ?_
           refine GmT.p' 39 4 (.bool false) (by kernel_rfl) (by kernel_rfl) ?_
           refine GmT.done (by kernel_rfl) ?_
           have hI := hI.drop
           have hI := hI.drop
           have e := someS h1
           subst e
           exact Qn.thenJ fun a ha => ⟨false, rfl, ha.keep [4] (by kernel_rfl), hI⟩
         ·
          rw [if_neg hb49] at h1
          have hb49 : y45 = false := by simpa using hb49
          refine GmT.keep [0, 1, 7, 9, 11, 13, 78] (S' := [(0, .slice A_a0 a0.length c_a0), (1, iv a1), (7, pb b18), (9, pb b27), (11, .string y38), (13, .string y44), (78, .bool false)]) (by (try simp only [hb49]); kernel_rfl) ?_
          refine GmT.p' 8 79 (undef) (by kernel_rfl) (by kernel_rfl) ?_
          refine GmT.p' 9 80 (undef) (by kernel_rfl) (by kernel_rfl) ?_
          refine GmT.p' 10 81 (undef) (by kernel_rfl) (by kernel_rfl) ?_
          refine GmT.p' 11 82 (undef) (by kernel_rfl) (by kernel_rfl) ?_
          refine GmT.p' 12 83 (.bool false) (by kernel_rfl) (by kernel_rfl) ?_
          refine GmT.p' 13 84 (.bool false) (by kernel_rfl) (by kernel_rfl) ?_
          refine GmT.p' 14 85 (undef) (by kernel_rfl) (by kernel_rfl) ?_
          refine GmT.p' 15 86 (undef) (by kernel_rfl) (by kernel_rfl) ?_
          refine GmT.p' 16 87 (undef) (by kernel_rfl) (by kernel_rfl) ?_
          refine GmT.p' 17 88 (undef) (by kernel_rfl) (by kernel_rfl) ?_
          refine GmT.p' 18 89 (undef) (by kernel_rfl) (by kernel_rfl) ?_
          refine GmT.p' 19 90 (.bool false) (by kernel_rfl) (by kernel_rfl) ?_
          refine GmT.p' 20 91 (.bool false) (by kernel_rfl) (by kernel_rfl) ?_
          refine GmT.p' 21 92 (undef) (by kernel_rfl) (by kernel_rfl) ?_
          refine GmT.p' 22 93 (undef) (by kernel_rfl) (by kernel_rfl) ?_
          refine GmT.p' 23 94 (undef) (by kernel_rfl) (by kernel_rfl) ?_
          refine GmT.p' 24 95 (undef) (by kernel_rfl) (by kernel_rfl) ?_
          refine GmT.p' 25 96 (undef) (by kernel_rfl) (by kernel_rfl) ?_
          refine GmT.p' 26 97 (.bool false) (by kernel_rfl) (by kernel_rfl) ?_
          refine GmT.p' 27 98 (.bool false) (by kernel_rfl) (by kernel_rfl) ?_
          refine GmT.p' 28 99 (undef) (by kernel_rfl) (by kernel_rfl) ?_
          refine GmT.p' 29 100 (undef) (by kernel_rfl) (by kernel_rfl) ?_
          refine GmT.p' 30 101 (undef) (by kernel_rfl) (by kernel_rfl) ?_
          refine GmT.p' 31 102 (undef) (by kernel_rfl) (by kernel_rfl) ?_
          refine GmT.p' 32 103 (undef) (by kernel_rfl) (by kernel_rfl) ?_
          refine GmT.p' 33 104 (undef) (by kernel_rfl) (by kernel_rfl) ?_
          refine GmT.p' 34 105 (undef) (by kernel_rfl) (by kernel_rfl) ?_
          refine GmT.p' 35 106 (undef) (by kernel_rfl) (by kernel_rfl) ?_
          refine GmT.p' 36 107 (undef) (by kernel_rfl) (by kernel_rfl) ?_
          refine GmT.p' 37 108 (undef) (by kernel_rfl) (by kernel_rfl) ?_
          refine GmT.p' 38 109 (.bool false) (by kernel_rfl) (by kernel_rfl) ?_
          refine GmT.p' 39 4 (.bool false) (by kernel_rfl) (by kernel_rfl) ?_
          refine GmT.done (by kernel_rfl) ?_
          have hI := hI.drop
          have hI := hI.drop
          have e := someS h1
          subst e
          exact Qn.thenJ fun a ha => ⟨false, rfl, ha.keep [4] (by kernel_rfl), hI⟩
        ·
         rw [if_neg hb48] at h1
         have hb48 : y39 = false := by simpa using hb48
         refine GmT.keep [0, 1, 7, 9, 11, 13, 14, 75] (S' := [(0, .slice A_a0 a0.length c_a0), (1, iv a1), (7, pb b18), (9, pb b27), (11, .string y38), (13, .string y44), (14, .bool y45), (75, .bool false)]) (by (try simp only [hb48]); kernel_rfl) ?_
         refine GmT.p' 5 76 (undef) (by kernel_rfl) (by kernel_rfl) ?_
         refine GmT.p' 6 77 (.bool false) (by kernel_rfl) (by kernel_rfl) ?_
         refine GmT.p' 7 78 (.bool false) (by kernel_rfl) (by kernel_rfl) ?_
         refine GmT.p' 8 79 (undef) (by kernel_rfl) (by kernel_rfl) ?_
         refine GmT.p' 9 80 (undef) (by kernel_rfl) (by kernel_rfl) ?_
         refine GmT.p' 10 81 (undef) (by kernel_rfl) (by kernel_rfl) ?_
         refine GmT.p' 11 82 (undef) (by kernel_rfl) (by kernel_rfl) ?_
         refine GmT.p' 12 83 (.bool false) (by kernel_rfl) (by kernel_rfl) ?_
         refine GmT.p' 13 84 (.bool false) (by kernel_rfl) (by kernel_rfl) ?_
         refine GmT.p' 14 85 (undef) (by kernel_rfl) (by kernel_rfl) ?_
         refine GmT.p' 15 86 (undef) (by kernel_rfl) (by kernel_rfl) ?_
         refine GmT.p' 16 87 (undef) (by kernel_rfl) (by kernel_rfl) ?_
         refine GmT.p' 17 88 (undef) (by kernel_rfl) (by kernel_rfl) ?_
         refine GmT.p' 18 89 (undef) (by kernel_rfl) (by kernel_rfl) ?_
         refine GmT.p' 19 90 (.bool false) (by kernel_rfl) (by kernel_rfl) ?_
         refine GmT.p' 20 91 (.bool false) (by kernel_rfl) (by kernel_rfl) ?_
         refine GmT.p' 21 92 (undef) (by kernel_rfl) (by kernel_rfl) ?_
         refine GmT.p' 22 93 (undef) (by kernel_rfl) (by kernel_rfl) ?_
         refine GmT.p' 23 94 (undef) (by kernel_rfl) (by kernel_rfl) ?_
         refine GmT.p' 24 95 (undef) (by kernel_rfl) (by kernel_rfl) ?_
         refine GmT.p' 25 96 (undef) (by kernel_rfl) (by kernel_rfl) ?_
         refine GmT.p' 26 97 (.bool false) (by kernel_rfl) (by kernel_rfl) ?_
         refine GmT.p' 27 98 (.bool false) (by kernel_rfl) (by kernel_rfl) ?_
         refine GmT.p' 28 99 (undef) (by kernel_rfl) (by kernel_rfl) ?_
         refine GmT.p' 29 100 (undef) (by kernel_rfl) (by kernel_rfl) ?_
         refine GmT.p' 30 101 (undef) (by kernel_rfl) (by kernel_rfl) ?_
         refine GmT.p' 31 102 (undef) (by kernel_rfl) (by kernel_rfl) ?_
         refine GmT.p' 32 103 (undef) (by kernel_rfl) (by kernel_rfl) ?_
         refine GmT.p' 33 104 (undef) (by kernel_rfl) (by kernel_rfl) ?_
         refine GmT.p' 34 105 (undef) (by kernel_rfl) (by kernel_rfl) ?_
         refine GmT.p' 35 106 (undef) (by kernel_rfl) (by kernel_rfl) ?_
         refine GmT.p' 36 107 (undef) (by kernel_rfl) (by kernel_rfl) ?_
         refine GmT.p' 37 108 (undef) (by kernel_rfl) (by kernel_rfl) ?_
         refine GmT.p' 38 109 (.bool false) (by kernel_rfl) (by kernel_rfl) ?_
         refine GmT.p' 39 4 (.bool false) (by kernel_rfl) (by kernel_rfl) ?_
         refine GmT.done (by kernel_rfl) ?_
         have hI := hI.drop
         have hI := hI.drop
         have e := someS h1
         subst e
         exact Qn.thenJ fun a ha => ⟨false, rfl, ha.keep [4] (by kernel_rfl), hI⟩
       ·
        rw [if_neg hb47] at h1
        have hb47 : y2 = false := by simpa using hb47
        refine GmT.keep [0, 1, 7, 9, 11, 12, 13, 14, 72] (S' := [(0, .slice A_a0 a0.length c_a0), (1, iv a1), (7, pb b18), (9, pb b27), (11, .string y38), (12, .bool y39), (13, .string y44), (14, .bool y45), (72, .bool false)]) (by (try simp only [hb47]); kernel_rfl) ?_
        refine GmT.p' 2 73 (undef) (by kernel_rfl) (by kernel_rfl) ?_
        refine GmT.p' 3 74 (.bool false) (by kernel_rfl) (by kernel_rfl) ?_
        refine GmT.p' 4 75 (.bool false) (by kernel_rfl) (by kernel_rfl) ?_
        refine GmT.p' 5 76 (undef) (by kernel_rfl) (by kernel_rfl) ?_
        refine GmT.p' 6 77 (.bool false) (by kernel_rfl) (by kernel_rfl) ?_
        refine GmT.p' 7 78 (.bool false) (by kernel_rfl) (by kernel_rfl) ?_
        refine GmT.p' 8 79 (undef) (by kernel_rfl) (by kernel_rfl) ?_
        refine GmT.p' 9 80 (undef) (by kernel_rfl) (by kernel_rfl) ?_
        refine GmT.p' 10 81 (undef) (by kernel_rfl) (by kernel_rfl) ?_
        refine GmT.p' 11 82 (undef) (by kernel_rfl) (by kernel_rfl) ?_
        refine GmT.p' 12 83 (.bool false) (by kernel_rfl) (by kernel_rfl) ?_
        refine GmT.p' 13 84 (.bool false) (by kernel_rfl) (by kernel_rfl) ?_
        refine GmT.p' 14 85 (undef) (by kernel_rfl) (by kernel_rfl) ?_
        refine GmT.p' 15 86 (undef) (by kernel_rfl) (by kernel_rfl) ?_
        refine GmT.p' 16 87 (undef) (by kernel_rfl) (by kernel_rfl) ?_
        refine GmT.p' 17 88 (undef) (by kernel_rfl) (by kernel_rfl) ?_
        refine GmT.p' 18 89 (undef) (by kernel_rfl) (by kernel_rfl) ?_
        refine GmT.p' 19 90 (.bool false) (by kernel_rfl) (by kernel_rfl) ?_
        refine GmT.p' 20 91 (.bool false) (by kernel_rfl) (by kernel_rfl) ?_
        refine GmT.p' 21 92 (undef) (by kernel_rfl) (by kernel_rfl) ?_
        refine GmT.p' 22 93 (undef) (by kernel_rfl) (by kernel_rfl) ?_
        refine GmT.p' 23 94 (undef) (by kernel_rfl) (by kernel_rfl) ?_
        refine GmT.p' 24 95 (undef) (by kernel_rfl) (by kernel_rfl) ?_
        refine GmT.p' 25 96 (undef) (by kernel_rfl) (by kernel_rfl) ?_
        refine GmT.p' 26 97 (.bool false) (by kernel_rfl) (by kernel_rfl) ?_
        refine GmT.p' 27 98 (.bool false) (by kernel_rfl) (by kernel_rfl) ?_
        refine GmT.p' 28 99 (undef) (by kernel_rfl) (by kernel_rfl) ?_
        refine GmT.p' 29 100 (undef) (by kernel_rfl) (by kernel_rfl) ?_
        refine GmT.p' 30 101 (undef) (by kernel_rfl) (by kernel_rfl) ?_
        refine GmT.p' 31 102 (undef) (by kernel_rfl) (by kernel_rfl) ?_
        refine GmT.p' 32 103 (undef) (by kernel_rfl) (by kernel_rfl) ?_
        refine GmT.p' 33 104 (undef) (by kernel_rfl) (by kernel_rfl) ?_
        refine GmT.p' 34 105 (undef) (by kernel_rfl) (by kernel_rfl) ?_
        refine GmT.p' 35 106 (undef) (by kernel_rfl) (by kernel_rfl) ?_
        refine GmT.p' 36 107 (undef) (by kernel_rfl) (by kernel_rfl) ?_
        refine GmT.p' 37 108 (undef) (by kernel_rfl) (by kernel_rfl) ?_
        refine GmT.p' 38 109 (.bool false) (by kernel_rfl) (by kernel_rfl) ?_
        refine GmT.p' 39 4 (.bool false) (by kernel_rfl) (by kernel_rfl) ?_
        refine GmT.done (by kernel_rfl) ?_
        have hI := hI.drop
        have hI := hI.drop
        have e := someS h1
        subst e
        exact Qn.thenJ fun a ha => ⟨false, rfl, ha.keep [4] (by kernel_rfl), hI⟩
      ·
       rintro a w ⟨x46, rfl, ha, hI⟩
       try dsimp only at h0
       refine CodT.of ?_ ha
       refine CodT.ret ?_
       have e := someS h0
       subst e
       refine qK [4] (S' := [(4, .bool x46)]) (by kernel_rfl) ?_
       exact post_ret (v := .bool x46) (fun a ha => RunRes.run (vs := [.bool x46]) (.tmp (t := 4) (by kernel_rfl) .nil) ha (by kernel_rfl)) ⟨rfl, hI.weaken (Hp.le_trans hle35 hle41)⟩
end Go.Cen
