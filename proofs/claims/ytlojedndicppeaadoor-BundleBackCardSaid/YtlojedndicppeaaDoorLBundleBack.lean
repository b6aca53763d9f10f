/- The walk of the law BundleBack, printed by a program of ours. -/
import Derived.Test.YtlojedndicppeaaDoorWx3
set_option linter.unusedVariables false
set_option linter.unusedSimpArgs false
namespace Go.Cen
set_option maxRecDepth 100000
set_option maxHeartbeats 4000000
/-- cenotaph/cenotaphlaw11.BundleBack -/
theorem c3 (w0 w : World) (Z : Hp) (A : HP) (hI : Inv w0 Z w A) (hT : Tabs Z) (uc : Int) (ud : (List Int)) (uf : ud.length = 32) (ua : Option Addr) (ue : Nat) (ub : (List ApiEvent)) (ug : RdS Z c_ApiEvent 37 ua ue ub) (a1 : ByteArray) (r : Bool) (h0 : law11_BundleBack uc ud ub a1 = some r) :
  Calls prog 3 #[.agg ((([iv uc] : LV) ++ (cA (Value.int .u8) ud) ++ ([.slice ua ub.length ue] : LV))).toArray, .string a1] w (fun e w' => e = .returned (.bool r) ∧ Inv w0 Z w' A) := by
 have e4 := calls_intro (R := (fun e w' => e = .returned (.bool r) ∧ Inv w0 Z w' A)) (w := w) (args := [.agg ((([iv uc] : LV) ++ (cA (Value.int .u8) ud) ++ ([.slice ua ub.length ue] : LV))).toArray, .string a1]) (fn := Go.Proofs.Tryd.f3) 85 Go.Proofs.Tryd.func3 (by rfl) Go.Proofs.Tryd.ntmps3 (by kernel_rfl)
 refine e4 ?_
 clear e4
 unfold law11_BundleBack at h0
 refine cQ ?_
 refine cR [0, 1] (by kernel_rfl) ?_
 refine oC (Does.boxL (d := 2) (T := 26) (v := .agg ((([iv uc] : LV) ++ (cA (Value.int .u8) ud) ++ ([.slice ua ub.length ue] : LV))).toArray) ((([iv uc] : LV) ++ (cA (Value.int .u8) ud) ++ ([.slice ua ub.length ue] : LV))) (by kernel_rfl) hI (by kernel_rfl) ?_)
 intro b1 w hI
 refine oP (r := []) [1] (S' := [(1, .string a1), (2, pb b1)]) (by kernel_rfl) ?_
 refine oD ?_
 refine qT ?_
 refine cQ ?_
 refine cR [0, 1] (by kernel_rfl) ?_
 obtain ⟨y3, hc2, h0⟩ := bindS h0
 try dsimp only at h0
 refine oC (Does.call (d := some 15) (n := 7) (vs := []) (by kernel_rfl) en7 (c7 w0 w _ _ hI hT _ hc2) ?_)
 rintro e w ⟨rfl, hI⟩
 refine ⟨_, rfl, ?_⟩
 refine oP (r := []) [1] (S' := [(1, .string a1), (2, pb b1), (5, .bool y3)]) (by kernel_rfl) ?_
 refine oD ?_
 refine qT ?_
 refine cQ ?_
 refine cQ ?_
 refine cR [0, 1] (by kernel_rfl) ?_
 refine oP (r := []) [0, 1] (S' := [(1, .string a1), (2, pb b1), (5, .bool y3), (17, .bool (!y3))]) (by kernel_rfl) ?_
 refine oD ?_
 refine qT ?_
 by_cases hb4 : (!y3) = true
 ·
  rw [if_pos hb4] at h0
  refine CodT.yes' (b := !y3) (by kernel_rfl) hb4 ?_
  refine cQ ?_
  refine cR [0] (by kernel_rfl) ?_
  refine oP (r := []) [0] (S' := [(4, .bool false)]) (by kernel_rfl) ?_
  refine oD ?_
  refine qT ?_
  refine CodT.ret ?_
  refine Qn.ret_then ?_
  have hI := hI.drop
  have e := someS h0
  subst e
  refine qK [4] (S' := [(4, .bool false)]) (by kernel_rfl) ?_
  exact post_ret (v := .bool false) (fun a ha => RunRes.run (vs := [.bool false]) (.tmp (t := 4) (by kernel_rfl) .nil) ha (by kernel_rfl)) ⟨rfl, hI⟩
 ·
  rw [if_neg hb4] at h0
  refine CodT.no' (b := !y3) (by kernel_rfl) (by simpa using hb4) ?_
  refine CodT.skip ?_
  refine qT ?_
  refine cQ ?_
  refine cR [0, 1, 2, 3] (by kernel_rfl) ?_
  refine oP (r := [1, 2, 3]) [0] (S' := [(1, .string a1), (2, pb b1), (5, .bool y3), (18, .pointer (some ⟨b1, 33, none⟩))]) (by kernel_rfl) ?_
  refine oC (Does.yi (Yl.load (d := 19) (T := 24) (v := .slice ua ub.length ue) (by kernel_rfl) (ldB ty24 (l := (([iv uc] : LV) ++ (cA (Value.int .u8) ud) ++ ([.slice ua ub.length ue] : LV))) (o := 33) (v := .slice ua ub.length ue) (ent_refl _) (seg_get [([iv uc] : LV), cA (Value.int .u8) ud, ([.slice ua ub.length ue] : LV)] 2 (by simp [cA_length, uf]) (by simp [cA_length, uf]) rfl))) hI ?_)
  obtain ⟨y6, hc5, h0⟩ := bindS h0
  try dsimp only at h0
  refine oC (Does.call (d := some 20) (n := 8) (vs := [.slice ua ub.length ue]) (by kernel_rfl) en8 (c8 w0 w _ _ hI hT ua ue ub ug _ hc5) ?_)
  rintro e w ⟨rfl, hI⟩
  refine ⟨_, rfl, ?_⟩
  refine oP (r := []) [3] (S' := [(1, .string a1), (2, pb b1), (5, .bool y3), (6, .bool y6)]) (by kernel_rfl) ?_
  refine oD ?_
  refine qT ?_
  refine cQ ?_
  obtain ⟨r1, h1, h0⟩ := bindS h0
  refine CodT.meet (fun a w => ∃ (x7 : Bool), x7 = r1 ∧ Fr 85 [(1, .string a1), (2, pb b1), (5, .bool y3), (27, .bool x7)] a ∧ Inv w0 Z w (star (pt b1 (.cells ((([iv uc] : LV) ++ (cA (Value.int .u8) ud) ++ ([.slice ua ub.length ue] : LV))).toArray 26 (0, 0))) A)) ?_ ?_
  ·
   refine cR [0, 1, 2, 3, 4, 5, 6] (by kernel_rfl) ?_
   refine oP (r := [3, 4, 5, 6]) [0, 1, 2] (S' := [(1, .string a1), (2, pb b1), (5, .bool y3), (23, .bool (!y6))]) (by kernel_rfl) ?_
   by_cases hb8 : (!y6) = true
   ·
    rw [if_pos hb8] at h1
    refine oK [1, 2, 5, 23] (S' := [(1, .string a1), (2, pb b1), (5, .bool y3), (23, .bool true)]) (by (try simp only [hb8]); kernel_rfl) ?_
    refine oP (r := []) [3, 4, 5, 6] (S' := [(1, .string a1), (2, pb b1), (5, .bool y3), (27, .bool true)]) (by kernel_rfl) ?_
    refine oD ?_
    have e := someS h1
    subst e
    exact Qn.thenJ fun a ha => ⟨true, rfl, ha.keep [1, 2, 5, 27] (by kernel_rfl), hI⟩
   ·
    rw [if_neg hb8] at h1
    have hb8 : (!y6) = false := by simpa using hb8
    refine oK [1, 2, 5, 23] (S' := [(1, .string a1), (2, pb b1), (5, .bool y3), (23, .bool false)]) (by (try simp only [hb8]); kernel_rfl) ?_
    refine oP (r := []) [3, 4, 5, 6] (S' := [(1, .string a1), (2, pb b1), (5, .bool y3), (27, .bool (decide ((a1.size : Int) > 3000)))]) (by kernel_rfl) ?_
    refine oD ?_
    have e := someS h1
    subst e
    exact Qn.thenJ fun a ha => ⟨decide ((a1.size : Int) > 3000), rfl, ha.keep [1, 2, 5, 27] (by kernel_rfl), hI⟩
  ·
   rintro a w ⟨x7, rfl, ha, hI⟩
   try dsimp only at h0
   refine CodT.of ?_ ha
   by_cases hb9 : x7 = true
   ·
    rw [if_pos hb9] at h0
    refine CodT.yes' (b := x7) (by kernel_rfl) hb9 ?_
    refine cQ ?_
    refine cR [0, 1] (by kernel_rfl) ?_
    refine oP (r := []) [0, 1] (S' := [(4, .bool y3)]) (by kernel_rfl) ?_
    refine oD ?_
    refine qT ?_
    refine CodT.ret ?_
    refine Qn.ret_then ?_
    have hI := hI.drop
    have e := someS h0
    subst e
    refine qK [4] (S' := [(4, .bool y3)]) (by kernel_rfl) ?_
    exact post_ret (v := .bool y3) (fun a ha => RunRes.run (vs := [.bool y3]) (.tmp (t := 4) (by kernel_rfl) .nil) ha (by kernel_rfl)) ⟨rfl, hI⟩
   ·
    rw [if_neg hb9] at h0
    refine CodT.no' (b := x7) (by kernel_rfl) (by simpa using hb9) ?_
    refine CodT.skip ?_
    refine qT ?_
    refine cQ ?_
    refine cR [0, 1, 2, 3, 4, 5, 6] (by kernel_rfl) ?_
    refine oC (Does.yi (Yl.load (d := 30) (T := 26) (v := .agg ((([iv uc] : LV) ++ (cA (Value.int .u8) ud) ++ ([.slice ua ub.length ue] : LV))).toArray) (by kernel_rfl) (ldBN ty26 (l := (([iv uc] : LV) ++ (cA (Value.int .u8) ud) ++ ([.slice ua ub.length ue] : LV))) (o := 0) (cs := (([iv uc] : LV) ++ (cA (Value.int .u8) ud) ++ ([.slice ua ub.length ue] : LV))) (ent_refl _) (by simp [cA_length, uf]) (whole _ _ (by simp [cA_length, uf])))) hI ?_)
    obtain ⟨⟨y11, y12⟩, hc10, h0⟩ := bindS h0
    try dsimp only at h0
    refine oC (Does.call (d := some 31) (n := 9) (vs := [.agg ((([iv uc] : LV) ++ (cA (Value.int .u8) ud) ++ ([.slice ua ub.length ue] : LV))).toArray]) (by kernel_rfl) en9 (c9 w0 w _ _ hI hT uc ud uf ua ue ub ug _ hc10) ?_)
    rintro e w ⟨rfl, hI⟩
    refine ⟨_, rfl, ?_⟩
    refine oP (r := []) [2, 3, 4, 5, 6] (S' := [(1, .string a1), (2, pb b1), (5, .bool y3), (7, .string y11), (8, .bool y12)]) (by kernel_rfl) ?_
    refine oD ?_
    refine qT ?_
    refine cQ ?_
    refine cR [0, 1, 2, 3, 4, 5, 6, 7] (by kernel_rfl) ?_
    refine oP (r := [1, 2, 3, 4, 5, 6, 7]) [0] (S' := [(1, .string a1), (2, pb b1), (5, .bool y3), (7, .string y11), (8, .bool y12), (35, .string y11)]) (by kernel_rfl) ?_
    obtain ⟨⟨y14, y15, y17, y20⟩, hc13, h0⟩ := bindS h0
    try dsimp only at h0
    refine oC (Does.call (d := some 36) (n := 10) (vs := [.string y11]) (by kernel_rfl) en10 (c10 w0 w _ _ hI hT y11 _ hc13) ?_)
    rintro e w ⟨A18, cp19, rfl, hl16, hI⟩
    refine ⟨_, rfl, ?_⟩
    refine oP (r := [5, 6, 7]) [2, 3, 4] (S' := [(1, .string a1), (2, pb b1), (5, .bool y3), (7, .string y11), (8, .bool y12), (37, .agg ((([iv y14] : LV) ++ (cA (Value.int .u8) y15) ++ ([.slice A18 y17.length cp19] : LV))).toArray), (38, .bool y20)]) (by kernel_rfl) ?_
    refine oC (Does.allocL (d := 9) (T := 26) ((([iv 0] : LV) ++ (cA (Value.int .u8) (List.replicate 32 (0 : Int))) ++ ([.slice none 0 0] : LV))) (by kernel_rfl) ty26 hI (by kernel_rfl) ?_)
    intro b21 w hI
    refine oC (dS (T := 26) (b := b21) (o := 0) (v := .agg ((([iv y14] : LV) ++ (cA (Value.int .u8) y15) ++ ([.slice A18 y17.length cp19] : LV))).toArray) (l := (([iv 0] : LV) ++ (cA (Value.int .u8) (List.replicate 32 (0 : Int))) ++ ([.slice none 0 0] : LV))) (vs := (([iv y14] : LV) ++ (cA (Value.int .u8) y15) ++ ([.slice A18 y17.length cp19] : LV))) (L' := (([iv y14] : LV) ++ (cA (Value.int .u8) y15) ++ ([.slice A18 y17.length cp19] : LV))) (by kernel_rfl) ty26 hI (by kernel_rfl) (by simp [cA_length, hl16]) (by rw [show List.length _ = 34 from (by simp [cA_length])]; kernel_rfl) (ones_app _ _ (ones_app _ _ (by kernel_rfl) (ones_cA _)) (by kernel_rfl)) (lset_all _ _ (Eq.trans (show List.length _ = 34 from (by simp [cA_length, hl16])) (Eq.symm (show List.length _ = 34 from (by simp [cA_length]))))) ?_)
    intro w hI
    refine oP (r := []) [7] (S' := [(1, .string a1), (2, pb b1), (5, .bool y3), (7, .string y11), (8, .bool y12), (9, pb b21), (10, .bool y20)]) (by kernel_rfl) ?_
    refine oD ?_
    refine qT ?_
    refine cQ ?_
    obtain ⟨r1, h1, h0⟩ := bindS h0
    refine CodT.meet (fun a w => ∃ (x24 : Bool) (Z22 : Hp), x24 = r1 ∧ Fr 85 [(1, .string a1), (5, .bool y3), (57, .bool x24)] a ∧ Inv w0 Z22 w A ∧ Z.le Z22) ?_ ?_
    ·
     refine cR [0, 1, 2, 3, 4, 5, 6, 7, 8, 9, 10, 11, 12, 13, 14, 15, 16, 17, 18] (by kernel_rfl) ?_
     refine oP (r := [2, 3, 4, 5, 6, 7, 8, 9, 10, 11, 12, 13, 14, 15, 16, 17, 18]) [0, 1] (S' := [(1, .string a1), (2, pb b1), (5, .bool y3), (7, .string y11), (8, .bool y12), (9, pb b21), (10, .bool y20), (40, .bool y12)]) (by kernel_rfl) ?_
     by_cases hb25 : y12 = true
     ·
      rw [if_pos hb25] at h1
      refine oK [1, 2, 5, 7, 8, 9, 10, 40] (S' := [(1, .string a1), (2, pb b1), (5, .bool y3), (7, .string y11), (8, .bool true), (9, pb b21), (10, .bool y20), (40, .bool true)]) (by (try simp only [hb25]); kernel_rfl) ?_
      refine oP (r := [5, 6, 7, 8, 9, 10, 11, 12, 13, 14, 15, 16, 17, 18]) [2, 3, 4] (S' := [(1, .string a1), (2, pb b1), (5, .bool y3), (7, .string y11), (8, .bool true), (9, pb b21), (40, .bool true), (43, .bool (!y20))]) (by kernel_rfl) ?_
      by_cases hb26 : (!y20) = true
      ·
       rw [if_pos hb26] at h1
       refine oK [1, 2, 5, 7, 8, 9, 40, 43] (S' := [(1, .string a1), (2, pb b1), (5, .bool y3), (7, .string y11), (8, .bool true), (9, pb b21), (40, .bool true), (43, .bool true)]) (by (try simp only [hb26]); kernel_rfl) ?_
       refine oP (r := []) [5, 6, 7, 8, 9, 10, 11, 12, 13, 14, 15, 16, 17, 18] (S' := [(1, .string a1), (5, .bool y3), (57, .bool true)]) (by kernel_rfl) ?_
       refine oD ?_
       have hI := hI.drop
       have hI := hI.drop
       have hI := hI.drop
       have e := someS h1
       subst e
       exact Qn.thenJ fun a ha => ⟨true, Z, rfl, ha.keep [1, 5, 57] (by kernel_rfl), hI, (Hp.le_refl _)⟩
      ·
       rw [if_neg hb26] at h1
       have hb26 : (!y20) = false := by simpa using hb26
       refine oK [1, 2, 5, 7, 8, 9, 40, 43] (S' := [(1, .string a1), (2, pb b1), (5, .bool y3), (7, .string y11), (8, .bool true), (9, pb b21), (40, .bool true), (43, .bool false)]) (by (try simp only [hb26]); kernel_rfl) ?_
       refine oC (Does.yi (Yl.load (d := 44) (T := 26) (v := .agg ((([iv uc] : LV) ++ (cA (Value.int .u8) ud) ++ ([.slice ua ub.length ue] : LV))).toArray) (by kernel_rfl) (ldBN ty26 (l := (([iv uc] : LV) ++ (cA (Value.int .u8) ud) ++ ([.slice ua ub.length ue] : LV))) (o := 0) (cs := (([iv uc] : LV) ++ (cA (Value.int .u8) ud) ++ ([.slice ua ub.length ue] : LV))) (pick3 _ _ _ _) (by simp [cA_length, uf]) (whole _ _ (by simp [cA_length, uf])))) hI ?_)
       refine oC (Does.yi (Yl.load (d := 45) (T := 26) (v := .agg ((([iv y14] : LV) ++ (cA (Value.int .u8) y15) ++ ([.slice A18 y17.length cp19] : LV))).toArray) (by kernel_rfl) (ldBN ty26 (l := (([iv y14] : LV) ++ (cA (Value.int .u8) y15) ++ ([.slice A18 y17.length cp19] : LV))) (o := 0) (cs := (([iv y14] : LV) ++ (cA (Value.int .u8) y15) ++ ([.slice A18 y17.length cp19] : LV))) (ent_refl _) (by simp [cA_length, hl16]) (whole _ _ (by simp [cA_length, hl16])))) hI ?_)
       have hI := hI.mono (pick2 _ _ _)
       obtain ⟨Z27, hle28, hr29, hI⟩ := ownS_freeze hI
       obtain ⟨y31, hc30, h1⟩ := bindS h1
       try dsimp only at h1
       refine oC (Does.call (d := some 46) (n := 11) (vs := [.agg ((([iv uc] : LV) ++ (cA (Value.int .u8) ud) ++ ([.slice ua ub.length ue] : LV))).toArray, .agg ((([iv y14] : LV) ++ (cA (Value.int .u8) y15) ++ ([.slice A18 y17.length cp19] : LV))).toArray]) (by kernel_rfl) en11 (c11 w0 w _ _ hI (hT.mono hle28) uc ud uf ua ue ub (ug.mono hle28) y14 y15 hl16 A18 cp19 y17 hr29 _ hc30) ?_)
       rintro e w ⟨rfl, hI⟩
       refine ⟨_, rfl, ?_⟩
       refine oP (r := [12, 13, 14, 15, 16, 17, 18]) [8, 9, 10, 11] (S' := [(1, .string a1), (5, .bool y3), (7, .string y11), (8, .bool true), (50, .bool (!y31))]) (by kernel_rfl) ?_
       by_cases hb32 : (!y31) = true
       ·
        rw [if_pos hb32] at h1
        refine oK [1, 5, 7, 8, 50] (S' := [(1, .string a1), (5, .bool y3), (7, .string y11), (8, .bool true), (50, .bool true)]) (by (try simp only [hb32]); kernel_rfl) ?_
        refine oP (r := []) [12, 13, 14, 15, 16, 17, 18] (S' := [(1, .string a1), (5, .bool y3), (57, .bool true)]) (by kernel_rfl) ?_
        refine oD ?_
        have hI := hI.drop
        have hI := hI.drop
        have e := someS h1
        subst e
        exact Qn.thenJ fun a ha => ⟨true, Z27, rfl, ha.keep [1, 5, 57] (by kernel_rfl), hI, hle28⟩
       ·
        rw [if_neg hb32] at h1
        have hb32 : (!y31) = false := by simpa using hb32
        refine oK [1, 5, 7, 8, 50] (S' := [(1, .string a1), (5, .bool y3), (7, .string y11), (8, .bool true), (50, .bool false)]) (by (try simp only [hb32]); kernel_rfl) ?_
        refine oP (r := []) [12, 13, 14, 15, 16, 17, 18] (S' := [(1, .string a1), (5, .bool y3), (57, .bool false)]) (by kernel_rfl) ?_
        refine oD ?_
        have hI := hI.drop
        have hI := hI.drop
        have e := someS h1
        subst e
        exact Qn.thenJ fun a ha => ⟨false, Z27, rfl, ha.keep [1, 5, 57] (by kernel_rfl), hI, hle28⟩
     ·
      rw [if_neg hb25] at h1
      have hb25 : y12 = false := by simpa using hb25
      refine oK [1, 2, 5, 7, 8, 9, 10, 40] (S' := [(1, .string a1), (2, pb b1), (5, .bool y3), (7, .string y11), (8, .bool false), (9, pb b21), (10, .bool y20), (40, .bool false)]) (by (try simp only [hb25]); kernel_rfl) ?_
      refine oP (r := []) [2, 3, 4, 5, 6, 7, 8, 9, 10, 11, 12, 13, 14, 15, 16, 17, 18] (S' := [(1, .string a1), (5, .bool y3), (57, .bool (!(seq y11 (⟨#[]⟩ : ByteArray))))]) (by kernel_rfl) ?_
      refine oD ?_
      have hI := hI.drop
      have hI := hI.drop
      have hI := hI.drop
      have e := someS h1
      subst e
      exact Qn.thenJ fun a ha => ⟨!(seq y11 (⟨#[]⟩ : ByteArray)), Z, rfl, ha.keep [1, 5, 57] (by kernel_rfl), hI, (Hp.le_refl _)⟩
    ·
     rintro a w ⟨x24, Z22, rfl, ha, hI, hle23⟩
     try dsimp only at h0
     refine CodT.of ?_ ha
     by_cases hb33 : x24 = true
     ·
      rw [if_pos hb33] at h0
      refine CodT.yes' (b := x24) (by kernel_rfl) hb33 ?_
      refine cQ ?_
      refine cR [0] (by kernel_rfl) ?_
      refine oP (r := []) [0] (S' := [(4, .bool false)]) (by kernel_rfl) ?_
      refine oD ?_
      refine qT ?_
      refine CodT.ret ?_
      refine Qn.ret_then ?_
      have e := someS h0
      subst e
      refine qK [4] (S' := [(4, .bool false)]) (by kernel_rfl) ?_
      exact post_ret (v := .bool false) (fun a ha => RunRes.run (vs := [.bool false]) (.tmp (t := 4) (by kernel_rfl) .nil) ha (by kernel_rfl)) ⟨rfl, hI.weaken hle23⟩
     ·
      rw [if_neg hb33] at h0
      refine CodT.no' (b := x24) (by kernel_rfl) (by simpa using hb33) ?_
      refine CodT.skip ?_
      refine qT ?_
      refine cQ ?_
      refine cR [0, 1, 2, 3, 4, 5, 6, 7] (by kernel_rfl) ?_
      refine oP (r := [1, 2, 3, 4, 5, 6, 7]) [0] (S' := [(1, .string a1), (5, .bool y3), (59, .string a1)]) (by kernel_rfl) ?_
      obtain ⟨⟨y35, y36, y38, y41⟩, hc34, h0⟩ := bindS h0
      try dsimp only at h0
      refine oC (Does.call (d := some 60) (n := 10) (vs := [.string a1]) (by kernel_rfl) en10 (c10 w0 w _ _ hI (hT.mono hle23) a1 _ hc34) ?_)
      rintro e w ⟨A39, cp40, rfl, hl37, hI⟩
      refine ⟨_, rfl, ?_⟩
      refine oP (r := [5, 6, 7]) [2, 3, 4] (S' := [(1, .string a1), (5, .bool y3), (61, .agg ((([iv y35] : LV) ++ (cA (Value.int .u8) y36) ++ ([.slice A39 y38.length cp40] : LV))).toArray), (62, .bool y41)]) (by kernel_rfl) ?_
      refine oC (Does.allocL (d := 11) (T := 26) ((([iv 0] : LV) ++ (cA (Value.int .u8) (List.replicate 32 (0 : Int))) ++ ([.slice none 0 0] : LV))) (by kernel_rfl) ty26 hI (by kernel_rfl) ?_)
      intro b42 w hI
      refine oC (dS (T := 26) (b := b42) (o := 0) (v := .agg ((([iv y35] : LV) ++ (cA (Value.int .u8) y36) ++ ([.slice A39 y38.length cp40] : LV))).toArray) (l := (([iv 0] : LV) ++ (cA (Value.int .u8) (List.replicate 32 (0 : Int))) ++ ([.slice none 0 0] : LV))) (vs := (([iv y35] : LV) ++ (cA (Value.int .u8) y36) ++ ([.slice A39 y38.length cp40] : LV))) (L' := (([iv y35] : LV) ++ (cA (Value.int .u8) y36) ++ ([.slice A39 y38.length cp40] : LV))) (by kernel_rfl) ty26 hI (by kernel_rfl) (by simp [cA_length, hl37]) (by rw [show List.length _ = 34 from (by simp [cA_length])]; kernel_rfl) (ones_app _ _ (ones_app _ _ (by kernel_rfl) (ones_cA _)) (by kernel_rfl)) (lset_all _ _ (Eq.trans (show List.length _ = 34 from (by simp [cA_length, hl37])) (Eq.symm (show List.length _ = 34 from (by simp [cA_length]))))) ?_)
      intro w hI
      refine oP (r := []) [7] (S' := [(1, .string a1), (5, .bool y3), (11, pb b42), (12, .bool y41)]) (by kernel_rfl) ?_
      refine oD ?_
      refine qT ?_
      refine cQ ?_
      refine cQ ?_
      refine cR [0, 1] (by kernel_rfl) ?_
      refine oP (r := []) [0, 1] (S' := [(1, .string a1), (5, .bool y3), (11, pb b42), (64, .bool (!y41))]) (by kernel_rfl) ?_
      refine oD ?_
      refine qT ?_
      by_cases hb43 : (!y41) = true
      ·
       rw [if_pos hb43] at h0
       refine CodT.yes' (b := !y41) (by kernel_rfl) hb43 ?_
       obtain ⟨r1, h1, h0⟩ := bindS h0
       refine CodT.meet (fun a w => ∃ (x46 : Bool) (Z44 : Hp), x46 = r1 ∧ Fr 85 [(4, .bool x46)] a ∧ Inv w0 Z44 w A ∧ Z22.le Z44) ?_ ?_
       ·
        refine cR [0, 1, 2, 3, 4, 5, 6] (by kernel_rfl) ?_
        refine oP (r := [2, 3, 4, 5, 6]) [0, 1] (S' := [(11, pb b42), (66, .bool y3)]) (by kernel_rfl) ?_
        by_cases hb47 : y3 = true
        ·
         rw [if_pos hb47] at h1
         refine oK [11, 66] (S' := [(11, pb b42), (66, .bool true)]) (by (try simp only [hb47]); kernel_rfl) ?_
         refine oC (Does.yi (Yl.load (d := 67) (T := 26) (v := .agg ((([iv y35] : LV) ++ (cA (Value.int .u8) y36) ++ ([.slice A39 y38.length cp40] : LV))).toArray) (by kernel_rfl) (ldBN ty26 (l := (([iv y35] : LV) ++ (cA (Value.int .u8) y36) ++ ([.slice A39 y38.length cp40] : LV))) (o := 0) (cs := (([iv y35] : LV) ++ (cA (Value.int .u8) y36) ++ ([.slice A39 y38.length cp40] : LV))) (ent_refl _) (by simp [cA_length, hl37]) (whole _ _ (by simp [cA_length, hl37])))) hI ?_)
         refine oP (r := [4, 5, 6]) [3] (S' := [(66, .bool true), (67, .agg ((([iv y35] : LV) ++ (cA (Value.int .u8) y36) ++ ([.slice A39 y38.length cp40] : LV))).toArray), (68, .agg ((([iv 0] : LV) ++ (cA (Value.int .u8) (List.replicate 32 (0 : Int))) ++ ([.slice none 0 0] : LV))).toArray)]) (by kernel_rfl) ?_
         have hI := hI.mono (pick2 _ _ _)
         obtain ⟨Z48, hle49, hr50, hI⟩ := ownS_freeze hI
         obtain ⟨y52, hc51, h1⟩ := bindS h1
         try dsimp only at h1
         refine oC (Does.call (d := some 69) (n := 11) (vs := [.agg ((([iv y35] : LV) ++ (cA (Value.int .u8) y36) ++ ([.slice A39 y38.length cp40] : LV))).toArray, .agg ((([iv 0] : LV) ++ (cA (Value.int .u8) (List.replicate 32 (0 : Int))) ++ ([.slice none 0 0] : LV))).toArray]) (by kernel_rfl) en11 (c11 w0 w _ _ hI (hT.mono (Hp.le_trans hle23 hle49)) y35 y36 hl37 A39 cp40 y38 hr50 0 (List.replicate 32 (0 : Int)) (by kernel_rfl) none 0 ([] : List ApiEvent) (RdS.nil _ _ _ _ _ (Nat.zero_le _)) _ hc51) ?_)
         rintro e w ⟨rfl, hI⟩
         refine ⟨_, rfl, ?_⟩
         refine oP (r := []) [5, 6] (S' := [(4, .bool y52)]) (by kernel_rfl) ?_
         refine oD ?_
         have hI := hI.drop
         have e := someS h1
         subst e
         exact Qn.thenJ fun a ha => ⟨y52, Z48, rfl, ha.keep [4] (by kernel_rfl), hI, hle49⟩
        ·
         rw [if_neg hb47] at h1
         have hb47 : y3 = false := by simpa using hb47
         refine oK [11, 66] (S' := [(11, pb b42), (66, .bool false)]) (by (try simp only [hb47]); kernel_rfl) ?_
         refine oP (r := []) [2, 3, 4, 5, 6] (S' := [(4, .bool false)]) (by kernel_rfl) ?_
         refine oD ?_
         have hI := hI.drop
         have hI := hI.drop
         have e := someS h1
         subst e
         exact Qn.thenJ fun a ha => ⟨false, Z22, rfl, ha.keep [4] (by kernel_rfl), hI, (Hp.le_refl _)⟩
       ·
        rintro a w ⟨x46, Z44, rfl, ha, hI, hle45⟩
        try dsimp only at h0
        refine CodT.of ?_ ha
        refine CodT.ret ?_
        refine Qn.ret_then ?_
        have e := someS h0
        subst e
        refine qK [4] (S' := [(4, .bool x46)]) (by kernel_rfl) ?_
        exact post_ret (v := .bool x46) (fun a ha => RunRes.run (vs := [.bool x46]) (.tmp (t := 4) (by kernel_rfl) .nil) ha (by kernel_rfl)) ⟨rfl, hI.weaken (Hp.le_trans hle23 hle45)⟩
      ·
       rw [if_neg hb43] at h0
       refine CodT.no' (b := !y41) (by kernel_rfl) (by simpa using hb43) ?_
       refine CodT.skip ?_
       refine qT ?_
       refine cQ ?_
       refine cR [0, 1, 2, 3, 4, 5, 6] (by kernel_rfl) ?_
       refine oC (Does.yi (Yl.load (d := 72) (T := 26) (v := .agg ((([iv y35] : LV) ++ (cA (Value.int .u8) y36) ++ ([.slice A39 y38.length cp40] : LV))).toArray) (by kernel_rfl) (ldBN ty26 (l := (([iv y35] : LV) ++ (cA (Value.int .u8) y36) ++ ([.slice A39 y38.length cp40] : LV))) (o := 0) (cs := (([iv y35] : LV) ++ (cA (Value.int .u8) y36) ++ ([.slice A39 y38.length cp40] : LV))) (ent_refl _) (by simp [cA_length, hl37]) (whole _ _ (by simp [cA_length, hl37])))) hI ?_)
       have hI := hI.mono (pick2 _ _ _)
       obtain ⟨Z53, hle54, hr55, hI⟩ := ownS_freeze hI
       obtain ⟨⟨y57, y58⟩, hc56, h0⟩ := bindS h0
       try dsimp only at h0
       refine oC (Does.call (d := some 73) (n := 9) (vs := [.agg ((([iv y35] : LV) ++ (cA (Value.int .u8) y36) ++ ([.slice A39 y38.length cp40] : LV))).toArray]) (by kernel_rfl) en9 (c9 w0 w _ _ hI (hT.mono (Hp.le_trans hle23 hle54)) y35 y36 hl37 A39 cp40 y38 hr55 _ hc56) ?_)
       rintro e w ⟨rfl, hI⟩
       refine ⟨_, rfl, ?_⟩
       refine oP (r := []) [2, 3, 4, 5, 6] (S' := [(1, .string a1), (5, .bool y3), (13, .string y57), (14, .bool y58)]) (by kernel_rfl) ?_
       refine oD ?_
       refine qT ?_
       obtain ⟨r1, h1, h0⟩ := bindS h0
       refine CodT.meet (fun a w => ∃ (x59 : Bool), x59 = r1 ∧ Fr 85 [(4, .bool x59)] a ∧ Inv w0 Z53 w A) ?_ ?_
       ·
        refine cR [0, 1, 2, 3, 4, 5, 6, 7, 8, 9] (by kernel_rfl) ?_
        refine oP (r := [2, 3, 4, 5, 6, 7, 8, 9]) [0, 1] (S' := [(1, .string a1), (13, .string y57), (14, .bool y58), (77, .bool y3)]) (by kernel_rfl) ?_
        by_cases hb60 : y3 = true
        ·
         rw [if_pos hb60] at h1
         refine oK [1, 13, 14, 77] (S' := [(1, .string a1), (13, .string y57), (14, .bool y58), (77, .bool true)]) (by (try simp only [hb60]); kernel_rfl) ?_
         refine oP (r := [5, 6, 7, 8, 9]) [2, 3, 4] (S' := [(1, .string a1), (13, .string y57), (80, .bool y58)]) (by kernel_rfl) ?_
         by_cases hb61 : y58 = true
         ·
          rw [if_pos hb61] at h1
          refine oK [1, 13, 80] (S' := [(1, .string a1), (13, .string y57), (80, .bool true)]) (by (try simp only [hb61]); kernel_rfl) ?_
          refine oP (r := []) [5, 6, 7, 8, 9] (S' := [(4, .bool (seq y57 a1))]) (by kernel_rfl) ?_
          refine oD ?_
          have hI := hI.drop
          have e := someS h1
          subst e
          exact Qn.thenJ fun a ha => ⟨seq y57 a1, rfl, ha.keep [4] (by kernel_rfl), hI⟩
         ·
          rw [if_neg hb61] at h1
          have hb61 : y58 = false := by simpa using hb61
          refine oK [1, 13, 80] (S' := [(1, .string a1), (13, .string y57), (80, .bool false)]) (by (try simp only [hb61]); kernel_rfl) ?_
          refine oP (r := []) [5, 6, 7, 8, 9] (S' := [(4, .bool false)]) (by kernel_rfl) ?_
          refine oD ?_
          have hI := hI.drop
          have e := someS h1
          subst e
          exact Qn.thenJ fun a ha => ⟨false, rfl, ha.keep [4] (by kernel_rfl), hI⟩
        ·
         rw [if_neg hb60] at h1
         have hb60 : y3 = false := by simpa using hb60
         refine oK [1, 13, 14, 77] (S' := [(1, .string a1), (13, .string y57), (14, .bool y58), (77, .bool false)]) (by (try simp only [hb60]); kernel_rfl) ?_
         refine oP (r := []) [2, 3, 4, 5, 6, 7, 8, 9] (S' := [(4, .bool false)]) (by kernel_rfl) ?_
         refine oD ?_
         have hI := hI.drop
         have e := someS h1
         subst e
         exact Qn.thenJ fun a ha => ⟨false, rfl, ha.keep [4] (by kernel_rfl), hI⟩
       ·
        rintro a w ⟨x59, rfl, ha, hI⟩
        try dsimp only at h0
        refine CodT.of ?_ ha
        refine CodT.ret ?_
        have e := someS h0
        subst e
        refine qK [4] (S' := [(4, .bool x59)]) (by kernel_rfl) ?_
        exact post_ret (v := .bool x59) (fun a ha => RunRes.run (vs := [.bool x59]) (.tmp (t := 4) (by kernel_rfl) .nil) ha (by kernel_rfl)) ⟨rfl, hI.weaken (Hp.le_trans hle23 hle54)⟩
end Go.Cen
