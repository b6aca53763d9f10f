/- The walk of the law BundlePuts, printed by a program of ours. -/
import Derived.Test.YtlojedndicppeaaGreatDoorPx
import Derived.Test.YtlojedndicppeaaGreatDoorWx5
set_option linter.unusedVariables false
set_option linter.unusedSimpArgs false
namespace Go.Cen
set_option maxRecDepth 100000
set_option maxHeartbeats 4000000
/-- cenotaph/cenotaphlaw11.BundlePuts -/
theorem c3 (w0 w : World) (Z : Hp) (A : HP) (hI : Inv w0 Z w A) (hT : Tabs Z) (ud : Int) (ue : (List Int)) (uba : ue.length = 32) (ua : Option Addr) (ui : Nat) (uc : (List ApiEvent)) (ubc : RdS Z c_ApiEvent 37 ua ui uc) (ug : Int) (uh : (List Int)) (ubb : uh.length = 32) (ub : Option Addr) (uj : Nat) (uf : (List ApiEvent)) (ubd : RdS Z c_ApiEvent 37 ub uj uf) (r : Bool) (h0 : law11_BundlePuts ud ue uc ug uh uf = some r) :
  Calls prog 3 #[.agg ((([iv ud] : LV) ++ (q8c ue) ++ ([.slice ua uc.length ui] : LV))).toArray, .agg ((([iv ug] : LV) ++ (q8c uh) ++ ([.slice ub uf.length uj] : LV))).toArray] w (fun e w' => e = .returned (.bool r) ∧ Inv w0 Z w' A) := by
 have e4 := calls_intro (R := (fun e w' => e = .returned (.bool r) ∧ Inv w0 Z w' A)) (w := w) (args := [.agg ((([iv ud] : LV) ++ (q8c ue) ++ ([.slice ua uc.length ui] : LV))).toArray, .agg ((([iv ug] : LV) ++ (q8c uh) ++ ([.slice ub uf.length uj] : LV))).toArray]) (fn := Go.Proofs.Tryz.f3) 78 Go.Proofs.Tryz.func3 (by rfl) Go.Proofs.Tryz.ntmps3 (by kernel_rfl)
 refine e4 ?_
 clear e4
 unfold law11_BundlePuts at h0
 refine cQ (cR [0, 1, 2] ?_)
 refine oC (Does.boxL (d := 2) (T := 26) (v := .agg ((([iv ud] : LV) ++ (q8c ue) ++ ([.slice ua uc.length ui] : LV))).toArray) ((([iv ud] : LV) ++ (q8c ue) ++ ([.slice ua uc.length ui] : LV))) (by kernel_rfl) hI (by kernel_rfl) ?_)
 intro b1 w hI
 refine oC (Does.boxL (d := 3) (T := 26) (v := .agg ((([iv ug] : LV) ++ (q8c uh) ++ ([.slice ub uf.length uj] : LV))).toArray) ((([iv ug] : LV) ++ (q8c uh) ++ ([.slice ub uf.length uj] : LV))) (by kernel_rfl) hI (by kernel_rfl) ?_)
 intro b2 w hI
 refine oP (r := []) [2] (S' := [(2, pb b1), (3, pb b2)]) ?_
 refine oD (qT (cQ (cR [0, 1] ?_)))
 obtain ⟨y4, hc3, h0⟩ := bindS h0
 try dsimp only at h0
 refine oC (jC (d := some 13) (n := 6) (vs := []) (by kernel_rfl) en6 (c6 w0 w _ _ hI hT _ hc3) ?_)
 rintro e w ⟨rfl, hI⟩
 refine ⟨_, rfl, ?_⟩
 refine oP (r := []) [1] (S' := [(2, pb b1), (3, pb b2), (5, .bool y4)]) ?_
 refine oD (qT (cQ (cQ (cR [0, 1] ?_))))
 refine oP (r := []) [0, 1] (S' := [(2, pb b1), (3, pb b2), (5, .bool y4), (15, .bool (!y4))]) ?_
 refine oD (qT ?_)
 by_cases hb5 : (!y4) = true
 ·
  rw [if_pos hb5] at h0
  refine cY (b := !y4) hb5 ?_
  refine cQ (cR [0] ?_)
  refine oP (r := []) [0] (S' := [(4, .bool false)]) ?_
  refine oD (qT (jE (jR ?_)))
  have hI := hI.drop
  have hI := hI.drop
  have e := someS h0
  subst e
  refine qK [4] (S' := [(4, .bool false)]) ?_
  exact post_ret (v := .bool false) (fun a ha => jU (vs := [.bool false]) (.tmp (t := 4) (by kernel_rfl) .nil) ha (by kernel_rfl)) ⟨rfl, hI⟩
 ·
  rw [if_neg hb5] at h0
  refine cN (b := !y4) (by simpa using hb5) ?_
  refine jS (qT ?_)
  obtain ⟨r1, h1, h0⟩ := bindS h0
  refine jM (fun a w => ∃ (x6 : Bool), x6 = r1 ∧ Fr 78 [(2, pb b1), (3, pb b2), (5, .bool y4), (6, .bool x6)] a ∧ Inv w0 Z w (star (pt b2 (.cells ((([iv ug] : LV) ++ (q8c uh) ++ ([.slice ub uf.length uj] : LV))).toArray 26 (0, 0))) (star (pt b1 (.cells ((([iv ud] : LV) ++ (q8c ue) ++ ([.slice ua uc.length ui] : LV))).toArray 26 (0, 0))) A))) ?_ ?_
  ·
   refine cR [0, 1, 2, 3, 4, 5, 6, 7, 8] ?_
   refine oP (r := [1, 2, 3, 4, 5, 6, 7, 8]) [0] (S' := [(2, pb b1), (3, pb b2), (5, .bool y4), (16, .pointer (some ⟨b1, 33, none⟩))]) ?_
   refine oC (jY (jL (d := 17) (T := 24) (v := .slice ua uc.length ui) (by kernel_rfl) (ldB ty24 (l := (([iv ud] : LV) ++ (q8c ue) ++ ([.slice ua uc.length ui] : LV))) (o := 33) (v := .slice ua uc.length ui) (pick2 _ _ _) (seg_get [([iv ud] : LV), cA (Value.int .u8) ue, ([.slice ua uc.length ui] : LV)] 2 (by simp [cA_length, uba]) (by simp [cA_length, uba]) rfl))) hI ?_)
   obtain ⟨y8, hc7, h1⟩ := bindS h1
   try dsimp only at h1
   refine oC (jC (d := some 18) (n := 7) (vs := [.slice ua uc.length ui]) (by kernel_rfl) en7 (c7 w0 w _ _ hI hT ua ui uc ubc _ hc7) ?_)
   rintro e w ⟨rfl, hI⟩
   refine ⟨_, rfl, ?_⟩
   refine oP (r := [4, 5, 6, 7, 8]) [3] (S' := [(2, pb b1), (3, pb b2), (5, .bool y4), (19, .bool y8)]) ?_
   by_cases hb9 : y8 = true
   ·
    rw [if_pos hb9] at h1
    refine OpsT.keep [2, 3, 5, 19] (S' := [(2, pb b1), (3, pb b2), (5, .bool y4), (19, .bool true)]) (by (try simp only [hb9]); kernel_rfl) ?_
    refine oP (r := [5, 6, 7, 8]) [4] (S' := [(2, pb b1), (3, pb b2), (5, .bool y4), (19, .bool true), (20, .pointer (some ⟨b2, 33, none⟩))]) ?_
    refine oC (jY (jL (d := 21) (T := 24) (v := .slice ub uf.length uj) (by kernel_rfl) (ldB ty24 (l := (([iv ug] : LV) ++ (q8c uh) ++ ([.slice ub uf.length uj] : LV))) (o := 33) (v := .slice ub uf.length uj) (ent_refl _) (seg_get [([iv ug] : LV), cA (Value.int .u8) uh, ([.slice ub uf.length uj] : LV)] 2 (by simp [cA_length, ubb]) (by simp [cA_length, ubb]) rfl))) hI ?_)
    obtain ⟨y11, hc10, h1⟩ := bindS h1
    try dsimp only at h1
    refine oC (jC (d := some 22) (n := 7) (vs := [.slice ub uf.length uj]) (by kernel_rfl) en7 (c7 w0 w _ _ hI hT ub uj uf ubd _ hc10) ?_)
    rintro e w ⟨rfl, hI⟩
    refine ⟨_, rfl, ?_⟩
    refine oP (r := []) [7, 8] (S' := [(2, pb b1), (3, pb b2), (5, .bool y4), (6, .bool y11)]) ?_
    refine oD ?_
    have e := someS h1
    subst e
    exact jT fun a ha => ⟨y11, rfl, ha.keep [2, 3, 5, 6] (by kernel_rfl), hI⟩
   ·
    rw [if_neg hb9] at h1
    have hb9 : y8 = false := by simpa using hb9
    refine OpsT.keep [2, 3, 5, 19] (S' := [(2, pb b1), (3, pb b2), (5, .bool y4), (19, .bool false)]) (by (try simp only [hb9]); kernel_rfl) ?_
    refine oP (r := []) [4, 5, 6, 7, 8] (S' := [(2, pb b1), (3, pb b2), (5, .bool y4), (6, .bool false)]) ?_
    refine oD ?_
    have e := someS h1
    subst e
    exact jT fun a ha => ⟨false, rfl, ha.keep [2, 3, 5, 6] (by kernel_rfl), hI⟩
  ·
   rintro a w ⟨x6, rfl, ha, hI⟩
   try dsimp only at h0
   refine CodT.of ?_ ha
   refine cQ (cQ (cR [0, 1] ?_))
   refine oP (r := []) [0, 1] (S' := [(2, pb b1), (3, pb b2), (5, .bool y4), (25, .bool (!x6))]) ?_
   refine oD (qT ?_)
   by_cases hb12 : (!x6) = true
   ·
    rw [if_pos hb12] at h0
    refine cY (b := !x6) hb12 ?_
    refine cQ (cR [0, 1] ?_)
    refine oP (r := []) [0, 1] (S' := [(4, .bool y4)]) ?_
    refine oD (qT (jE (jR ?_)))
    have hI := hI.drop
    have hI := hI.drop
    have e := someS h0
    subst e
    refine qK [4] (S' := [(4, .bool y4)]) ?_
    exact post_ret (v := .bool y4) (fun a ha => jU (vs := [.bool y4]) (.tmp (t := 4) (by kernel_rfl) .nil) ha (by kernel_rfl)) ⟨rfl, hI⟩
   ·
    rw [if_neg hb12] at h0
    refine cN (b := !x6) (by simpa using hb12) ?_
    refine jS (qT (cQ (cR [0, 1, 2, 3, 4, 5, 6] ?_)))
    refine oC (jY (jL (d := 28) (T := 26) (v := .agg ((([iv ud] : LV) ++ (q8c ue) ++ ([.slice ua uc.length ui] : LV))).toArray) (by kernel_rfl) (ldBN ty26 (l := (([iv ud] : LV) ++ (q8c ue) ++ ([.slice ua uc.length ui] : LV))) (o := 0) (cs := (([iv ud] : LV) ++ (q8c ue) ++ ([.slice ua uc.length ui] : LV))) (pick2 _ _ _) (by simp [cA_length, uba]) (whole _ _ (by simp [cA_length, uba])))) hI ?_)
    obtain ⟨⟨y14, y15⟩, hc13, h0⟩ := bindS h0
    try dsimp only at h0
    refine oC (jC (d := some 29) (n := 8) (vs := [.agg ((([iv ud] : LV) ++ (q8c ue) ++ ([.slice ua uc.length ui] : LV))).toArray]) (by kernel_rfl) en8 (c8 w0 w _ _ hI hT ud ue uba ua ui uc ubc _ hc13) ?_)
    rintro e w ⟨rfl, hI⟩
    refine ⟨_, rfl, ?_⟩
    refine oP (r := []) [2, 3, 4, 5, 6] (S' := [(2, pb b1), (3, pb b2), (5, .bool y4), (7, .string y14), (8, .bool y15)]) ?_
    refine oD (qT (cQ (cR [0, 1, 2, 3, 4, 5, 6, 7] ?_)))
    refine oC (jY (jL (d := 33) (T := 26) (v := .agg ((([iv ud] : LV) ++ (q8c ue) ++ ([.slice ua uc.length ui] : LV))).toArray) (by kernel_rfl) (ldBN ty26 (l := (([iv ud] : LV) ++ (q8c ue) ++ ([.slice ua uc.length ui] : LV))) (o := 0) (cs := (([iv ud] : LV) ++ (q8c ue) ++ ([.slice ua uc.length ui] : LV))) (pick2 _ _ _) (by simp [cA_length, uba]) (whole _ _ (by simp [cA_length, uba])))) hI ?_)
    obtain ⟨⟨y17, y18, y20⟩, hc16, h0⟩ := bindS h0
    try dsimp only at h0
    refine oC (jC (d := some 34) (n := 10) (vs := [.agg ((([iv ud] : LV) ++ (q8c ue) ++ ([.slice ua uc.length ui] : LV))).toArray]) (by kernel_rfl) en10 (c10 w0 w _ _ hI hT ud ue uba ua ui uc ubc _ hc16) ?_)
    rintro e w ⟨A21, cp22, Z24, hle25, rfl, hl19, hr23, hI⟩
    refine ⟨_, rfl, ?_⟩
    obtain ⟨⟨y27, y28⟩, hc26, h0⟩ := bindS h0
    try dsimp only at h0
    refine oC (jC (d := some 35) (n := 9) (vs := [.agg ((([iv y17] : LV) ++ (q8c y18) ++ ([.slice A21 y20.length cp22] : LV))).toArray]) (by kernel_rfl) en9 (c9 w0 w _ _ hI (hT.mono hle25) y17 y18 hl19 A21 cp22 y20 hr23 _ hc26) ?_)
    rintro e w ⟨rfl, hI⟩
    refine ⟨_, rfl, ?_⟩
    refine oP (r := []) [3, 4, 5, 6, 7] (S' := [(2, pb b1), (3, pb b2), (5, .bool y4), (7, .string y14), (8, .bool y15), (9, .string y27), (10, .bool y28)]) ?_
    refine oD (qT (cQ ?_))
    refine CodT.drawI (n := 6) [] (by kernel_rfl) (by kernel_rfl) hI ?_
    intro w hI
    refine gR (i := 0) 2 (jL (d := 38) (T := 26) (v := .agg ((([iv ud] : LV) ++ (q8c ue) ++ ([.slice ua uc.length ui] : LV))).toArray) (by kernel_rfl) (ldBN ty26 (l := (([iv ud] : LV) ++ (q8c ue) ++ ([.slice ua uc.length ui] : LV))) (o := 0) (cs := (([iv ud] : LV) ++ (q8c ue) ++ ([.slice ua uc.length ui] : LV))) (pick2 _ _ _) (by simp [cA_length, uba]) (whole _ _ (by simp [cA_length, uba])))) hI ?_
    refine gR (i := 2) 2 (jL (d := 40) (T := 26) (v := .agg ((([iv ug] : LV) ++ (q8c uh) ++ ([.slice ub uf.length uj] : LV))).toArray) (by kernel_rfl) (ldBN ty26 (l := (([iv ug] : LV) ++ (q8c uh) ++ ([.slice ub uf.length uj] : LV))) (o := 0) (cs := (([iv ug] : LV) ++ (q8c uh) ++ ([.slice ub uf.length uj] : LV))) (ent_refl _) (by simp [cA_length, ubb]) (whole _ _ (by simp [cA_length, ubb])))) hI ?_
    obtain ⟨⟨y30, y31, y33⟩, hc29, h0⟩ := bindS h0
    try dsimp only at h0
    refine jO (i := 1) (by kernel_rfl) (jC (d := some 39) (n := 10) (vs := [.agg ((([iv ud] : LV) ++ (q8c ue) ++ ([.slice ua uc.length ui] : LV))).toArray]) (by kernel_rfl) en10 (c10 w0 w _ _ hI (hT.mono hle25) ud ue uba ua ui uc (ubc.mono hle25) _ hc29) ?_)
    rintro e w ⟨A34, cp35, Z37, hle38, rfl, hl32, hr36, hI⟩
    refine ⟨_, rfl, ?_⟩
    have hC := hI
    have hC := hC.weaken hle38
    refine ⟨fun _ _ => hC, ?_⟩
    obtain ⟨⟨y40, y41, y43⟩, hc39, h0⟩ := bindS h0
    try dsimp only at h0
    refine jO (i := 3) (by kernel_rfl) (jC (d := some 41) (n := 10) (vs := [.agg ((([iv ug] : LV) ++ (q8c uh) ++ ([.slice ub uf.length uj] : LV))).toArray]) (by kernel_rfl) en10 (c10 w0 w _ _ hI (hT.mono (Hp.le_trans hle25 hle38)) ug uh ubb ub uj uf (ubd.mono (Hp.le_trans hle25 hle38)) _ hc39) ?_)
    rintro e w ⟨A44, cp45, Z47, hle48, rfl, hl42, hr46, hI⟩
    refine ⟨_, rfl, ?_⟩
    have hC := hI
    have hC := hC.weaken (Hp.le_trans hle38 hle48)
    refine ⟨fun _ _ => hC, ?_⟩
    obtain ⟨y50, hc49, h0⟩ := bindS h0
    try dsimp only at h0
    refine jO (i := 4) (by kernel_rfl) (jC (d := some 42) (n := 11) (vs := [.agg ((([iv y30] : LV) ++ (q8c y31) ++ ([.slice A34 y33.length cp35] : LV))).toArray, .agg ((([iv y40] : LV) ++ (q8c y41) ++ ([.slice A44 y43.length cp45] : LV))).toArray]) (by kernel_rfl) en11 (c11 w0 w _ _ hI (hT.mono (Hp.le_trans (Hp.le_trans hle25 hle38) hle48)) y30 y31 hl32 A34 cp35 y33 (hr36.mono hle48) y40 y41 hl42 A44 cp45 y43 hr46 _ hc49) ?_)
    rintro e w ⟨rfl, hI⟩
    refine ⟨_, rfl, ?_⟩
    have hC := hI
    have hC := hC.weaken (Hp.le_trans hle38 hle48)
    refine ⟨fun _ _ => hC, ?_⟩
    refine gP 5 11 (.bool y50) ?_
    refine jD (by kernel_rfl) ?_
    refine qT (cQ (cR [0] ?_))
    refine oP (r := []) [0] (S' := [(2, pb b1), (3, pb b2), (5, .bool y4), (7, .string y14), (8, .bool y15), (9, .string y27), (10, .bool y28), (11, .bool y50), (12, .bool true)]) ?_
    refine oD (qT ?_)
    obtain ⟨r1, h1, h0⟩ := bindS h0
    refine jM (fun a w => ∃ (x53 : Bool) (Z51 : Hp), x53 = r1 ∧ Fr 78 [(2, pb b1), (3, pb b2), (5, .bool y4), (7, .string y14), (8, .bool y15), (9, .string y27), (10, .bool y28), (11, .bool y50), (12, .bool x53)] a ∧ Inv w0 Z51 w (star (pt b2 (.cells ((([iv ug] : LV) ++ (q8c uh) ++ ([.slice ub uf.length uj] : LV))).toArray 26 (0, 0))) (star (pt b1 (.cells ((([iv ud] : LV) ++ (q8c ue) ++ ([.slice ua uc.length ui] : LV))).toArray 26 (0, 0))) A)) ∧ Z47.le Z51) ?_ ?_
    ·
     obtain ⟨r2, h2, h1⟩ := bindS h1
     refine jM (fun a w => ∃ (x54 : Bool), x54 = r2 ∧ Fr 78 [(2, pb b1), (3, pb b2), (5, .bool y4), (7, .string y14), (8, .bool y15), (9, .string y27), (10, .bool y28), (11, .bool y50), (12, .bool true), (50, .bool x54)] a ∧ Inv w0 Z47 w (star (pt b2 (.cells ((([iv ug] : LV) ++ (q8c uh) ++ ([.slice ub uf.length uj] : LV))).toArray 26 (0, 0))) (star (pt b1 (.cells ((([iv ud] : LV) ++ (q8c ue) ++ ([.slice ua uc.length ui] : LV))).toArray 26 (0, 0))) A))) ?_ ?_
     ·
      refine cR [0, 1, 2, 3, 4, 5, 6, 7] ?_
      refine oP (r := [1, 2, 3, 4, 5, 6, 7]) [0] (S' := [(2, pb b1), (3, pb b2), (5, .bool y4), (7, .string y14), (8, .bool y15), (9, .string y27), (10, .bool y28), (11, .bool y50), (12, .bool true), (43, pb b1)]) ?_
      refine oC (jY (jL (d := 44) (T := 3) (v := iv ud) (by kernel_rfl) (ldB ty3 (l := (([iv ud] : LV) ++ (q8c ue) ++ ([.slice ua uc.length ui] : LV))) (o := 0) (v := iv ud) (pick2 _ _ _) (by kernel_rfl))) hI ?_)
      refine oP (r := [4, 5, 6, 7]) [2, 3] (S' := [(2, pb b1), (3, pb b2), (5, .bool y4), (7, .string y14), (8, .bool y15), (9, .string y27), (10, .bool y28), (11, .bool y50), (12, .bool true), (46, .bool (decide (ud ≥ 0)))]) ?_
      by_cases hb55 : (decide (ud ≥ 0)) = true
      ·
       rw [if_pos hb55] at h2
       refine OpsT.keep [2, 3, 5, 7, 8, 9, 10, 11, 12, 46] (S' := [(2, pb b1), (3, pb b2), (5, .bool y4), (7, .string y14), (8, .bool y15), (9, .string y27), (10, .bool y28), (11, .bool y50), (12, .bool true), (46, .bool true)]) (by (try simp only [hb55]); kernel_rfl) ?_
       refine oP (r := [5, 6, 7]) [4] (S' := [(2, pb b1), (3, pb b2), (5, .bool y4), (7, .string y14), (8, .bool y15), (9, .string y27), (10, .bool y28), (11, .bool y50), (12, .bool true), (46, .bool true), (47, pb b1)]) ?_
       refine oC (jY (jL (d := 48) (T := 3) (v := iv ud) (by kernel_rfl) (ldB ty3 (l := (([iv ud] : LV) ++ (q8c ue) ++ ([.slice ua uc.length ui] : LV))) (o := 0) (v := iv ud) (pick2 _ _ _) (by kernel_rfl))) hI ?_)
       refine oP (r := []) [6, 7] (S' := [(2, pb b1), (3, pb b2), (5, .bool y4), (7, .string y14), (8, .bool y15), (9, .string y27), (10, .bool y28), (11, .bool y50), (12, .bool true), (50, .bool (decide (ud ≤ 1099511627776)))]) ?_
       refine oD ?_
       have e := someS h2
       subst e
       exact jT fun a ha => ⟨decide (ud ≤ 1099511627776), rfl, ha.keep [2, 3, 5, 7, 8, 9, 10, 11, 12, 50] (by kernel_rfl), hI⟩
      ·
       rw [if_neg hb55] at h2
       have hb55 : (decide (ud ≥ 0)) = false := by simpa using hb55
       refine OpsT.keep [2, 3, 5, 7, 8, 9, 10, 11, 12, 46] (S' := [(2, pb b1), (3, pb b2), (5, .bool y4), (7, .string y14), (8, .bool y15), (9, .string y27), (10, .bool y28), (11, .bool y50), (12, .bool true), (46, .bool false)]) (by (try simp only [hb55]); kernel_rfl) ?_
       refine oP (r := []) [4, 5, 6, 7] (S' := [(2, pb b1), (3, pb b2), (5, .bool y4), (7, .string y14), (8, .bool y15), (9, .string y27), (10, .bool y28), (11, .bool y50), (12, .bool true), (50, .bool false)]) ?_
       refine oD ?_
       have e := someS h2
       subst e
       exact jT fun a ha => ⟨false, rfl, ha.keep [2, 3, 5, 7, 8, 9, 10, 11, 12, 50] (by kernel_rfl), hI⟩
     ·
      rintro a w ⟨x54, rfl, ha, hI⟩
      try dsimp only at h1
      refine CodT.of ?_ ha
      by_cases hb56 : x54 = true
      ·
       rw [if_pos hb56] at h1
       refine cY (b := x54) hb56 ?_
       refine CodT.drawI (n := 7) [] (by kernel_rfl) (by kernel_rfl) hI ?_
       intro w hI
       refine gR (i := 0) 2 (jL (d := 51) (T := 26) (v := .agg ((([iv ud] : LV) ++ (q8c ue) ++ ([.slice ua uc.length ui] : LV))).toArray) (by kernel_rfl) (ldBN ty26 (l := (([iv ud] : LV) ++ (q8c ue) ++ ([.slice ua uc.length ui] : LV))) (o := 0) (cs := (([iv ud] : LV) ++ (q8c ue) ++ ([.slice ua uc.length ui] : LV))) (pick2 _ _ _) (by simp [cA_length, uba]) (whole _ _ (by simp [cA_length, uba])))) hI ?_
       refine gR (i := 2) 2 (jL (d := 53) (T := 26) (v := .agg ((([iv ud] : LV) ++ (q8c ue) ++ ([.slice ua uc.length ui] : LV))).toArray) (by kernel_rfl) (ldBN ty26 (l := (([iv ud] : LV) ++ (q8c ue) ++ ([.slice ua uc.length ui] : LV))) (o := 0) (cs := (([iv ud] : LV) ++ (q8c ue) ++ ([.slice ua uc.length ui] : LV))) (pick2 _ _ _) (by simp [cA_length, uba]) (whole _ _ (by simp [cA_length, uba])))) hI ?_
       obtain ⟨y58, hc57, h1⟩ := bindS h1
       try dsimp only at h1
       refine jO (i := 1) (by kernel_rfl) (jC (d := some 52) (n := 13) (vs := [.agg ((([iv ud] : LV) ++ (q8c ue) ++ ([.slice ua uc.length ui] : LV))).toArray]) (by kernel_rfl) en13 (c13 w0 w _ _ hI (hT.mono (Hp.le_trans (Hp.le_trans hle25 hle38) hle48)) ud ue uba ua ui uc (ubc.mono (Hp.le_trans (Hp.le_trans hle25 hle38) hle48)) _ hc57) ?_)
       rintro e w ⟨A59, cp60, rfl, hI⟩
       refine ⟨_, rfl, ?_⟩
       have hC := hI
       have hC := hC.drop
       refine ⟨fun _ _ => hC, ?_⟩
       obtain ⟨⟨y62, y63, y65⟩, hc61, h1⟩ := bindS h1
       try dsimp only at h1
       refine jO (i := 3) (by kernel_rfl) (jC (d := some 54) (n := 10) (vs := [.agg ((([iv ud] : LV) ++ (q8c ue) ++ ([.slice ua uc.length ui] : LV))).toArray]) (by kernel_rfl) en10 (c10 w0 w _ _ hI (hT.mono (Hp.le_trans (Hp.le_trans hle25 hle38) hle48)) ud ue uba ua ui uc (ubc.mono (Hp.le_trans (Hp.le_trans hle25 hle38) hle48)) _ hc61) ?_)
       rintro e w ⟨A66, cp67, Z69, hle70, rfl, hl64, hr68, hI⟩
       refine ⟨_, rfl, ?_⟩
       have hC := hI
       have hC := hC.drop
       have hC := hC.weaken hle70
       refine ⟨fun _ _ => hC, ?_⟩
       obtain ⟨y72, hc71, h1⟩ := bindS h1
       try dsimp only at h1
       refine jO (i := 4) (by kernel_rfl) (jC (d := some 55) (n := 14) (vs := [.agg ((([iv y62] : LV) ++ (q8c y63) ++ ([.slice A66 y65.length cp67] : LV))).toArray]) (by kernel_rfl) en14 (c14 w0 w _ _ hI (hT.mono (Hp.le_trans (Hp.le_trans (Hp.le_trans hle25 hle38) hle48) hle70)) y62 y63 hl64 A66 cp67 y65 hr68 _ hc71) ?_)
       rintro e w ⟨A73, cp74, rfl, hI⟩
       refine ⟨_, rfl, ?_⟩
       have hC := hI
       have hC := hC.drop
       have hC := hC.drop
       have hC := hC.weaken hle70
       refine ⟨fun _ _ => hC, ?_⟩
       have hI := hI.mono (pick2 _ _ _)
       obtain ⟨Z75, hle76, hr77, hI⟩ := ownS_freeze hI
       obtain ⟨Z78, hle79, hr80, hI⟩ := ownS_freeze hI
       obtain ⟨y82, hc81, h1⟩ := bindS h1
       try dsimp only at h1
       refine jO (i := 5) (by kernel_rfl) (jC (d := some 56) (n := 12) (vs := [.slice A59 y58.length cp60, .slice A73 y72.length cp74]) (by kernel_rfl) en12 (c12 w0 w _ _ hI (hT.mono (Hp.le_trans (Hp.le_trans (Hp.le_trans (Hp.le_trans (Hp.le_trans hle25 hle38) hle48) hle70) hle76) hle79)) A59 cp60 y58 (hr77.mono hle79) A73 cp74 y72 hr80 _ hc81) ?_)
       rintro e w ⟨rfl, hI⟩
       refine ⟨_, rfl, ?_⟩
       have hC := hI
       have hC := hC.weaken (Hp.le_trans (Hp.le_trans hle70 hle76) hle79)
       refine ⟨fun _ _ => hC, ?_⟩
       refine gP 6 12 (.bool y82) ?_
       refine jD (by kernel_rfl) ?_
       have e := someS h1
       subst e
       exact jT fun a ha => ⟨y82, Z78, rfl, ha.keep [2, 3, 5, 7, 8, 9, 10, 11, 12] (by kernel_rfl), hI, (Hp.le_trans (Hp.le_trans hle70 hle76) hle79)⟩
      ·
       rw [if_neg hb56] at h1
       refine cN (b := x54) (by simpa using hb56) ?_
       refine jS ?_
       have e := someS h1
       subst e
       exact jT fun a ha => ⟨true, Z47, rfl, ha.keep [2, 3, 5, 7, 8, 9, 10, 11, 12] (by kernel_rfl), hI, (Hp.le_refl _)⟩
    ·
     rintro a w ⟨x53, Z51, rfl, ha, hI, hle52⟩
     try dsimp only at h0
     refine CodT.of ?_ ha
     obtain ⟨r1, h1, h0⟩ := bindS h0
     refine jM (fun a w => ∃ (x83 : Bool), x83 = r1 ∧ Fr 78 [(4, .bool x83)] a ∧ Inv w0 Z51 w A) ?_ ?_
     ·
      refine cR [0, 1, 2, 3, 4, 5, 6, 7, 8, 9, 10, 11, 12, 13, 14, 15, 16, 17, 18, 19, 20, 21] ?_
      refine oP (r := [2, 3, 4, 5, 6, 7, 8, 9, 10, 11, 12, 13, 14, 15, 16, 17, 18, 19, 20, 21]) [0, 1] (S' := [(2, pb b1), (3, pb b2), (7, .string y14), (8, .bool y15), (9, .string y27), (10, .bool y28), (11, .bool y50), (12, .bool x53), (58, .bool y4)]) ?_
      by_cases hb84 : y4 = true
      ·
       rw [if_pos hb84] at h1
       refine OpsT.keep [2, 3, 7, 8, 9, 10, 11, 12, 58] (S' := [(2, pb b1), (3, pb b2), (7, .string y14), (8, .bool y15), (9, .string y27), (10, .bool y28), (11, .bool y50), (12, .bool x53), (58, .bool true)]) (by (try simp only [hb84]); kernel_rfl) ?_
       refine oP (r := [7, 8, 9, 10, 11, 12, 13, 14, 15, 16, 17, 18, 19, 20, 21]) [2, 3, 4, 5, 6] (S' := [(2, pb b1), (3, pb b2), (8, .bool y15), (10, .bool y28), (11, .bool y50), (12, .bool x53), (63, .bool (seq y14 y27))]) ?_
       by_cases hb85 : (seq y14 y27) = true
       ·
        rw [if_pos hb85] at h1
        refine OpsT.keep [2, 3, 8, 10, 11, 12, 63] (S' := [(2, pb b1), (3, pb b2), (8, .bool y15), (10, .bool y28), (11, .bool y50), (12, .bool x53), (63, .bool true)]) (by (try simp only [hb85]); kernel_rfl) ?_
        refine oP (r := [12, 13, 14, 15, 16, 17, 18, 19, 20, 21]) [7, 8, 9, 10, 11] (S' := [(2, pb b1), (3, pb b2), (11, .bool y50), (12, .bool x53), (68, .bool (y15 == y28))]) ?_
        by_cases hb86 : (y15 == y28) = true
        ·
         rw [if_pos hb86] at h1
         refine OpsT.keep [2, 3, 11, 12, 68] (S' := [(2, pb b1), (3, pb b2), (11, .bool y50), (12, .bool x53), (68, .bool true)]) (by (try simp only [hb86]); kernel_rfl) ?_
         refine oC (jY (jL (d := 69) (T := 26) (v := .agg ((([iv ud] : LV) ++ (q8c ue) ++ ([.slice ua uc.length ui] : LV))).toArray) (by kernel_rfl) (ldBN ty26 (l := (([iv ud] : LV) ++ (q8c ue) ++ ([.slice ua uc.length ui] : LV))) (o := 0) (cs := (([iv ud] : LV) ++ (q8c ue) ++ ([.slice ua uc.length ui] : LV))) (pick2 _ _ _) (by simp [cA_length, uba]) (whole _ _ (by simp [cA_length, uba])))) hI ?_)
         refine oC (jY (jL (d := 70) (T := 26) (v := .agg ((([iv ug] : LV) ++ (q8c uh) ++ ([.slice ub uf.length uj] : LV))).toArray) (by kernel_rfl) (ldBN ty26 (l := (([iv ug] : LV) ++ (q8c uh) ++ ([.slice ub uf.length uj] : LV))) (o := 0) (cs := (([iv ug] : LV) ++ (q8c uh) ++ ([.slice ub uf.length uj] : LV))) (ent_refl _) (by simp [cA_length, ubb]) (whole _ _ (by simp [cA_length, ubb])))) hI ?_)
         obtain ⟨y88, hc87, h1⟩ := bindS h1
         try dsimp only at h1
         refine oC (jC (d := some 71) (n := 15) (vs := [.agg ((([iv ud] : LV) ++ (q8c ue) ++ ([.slice ua uc.length ui] : LV))).toArray, .agg ((([iv ug] : LV) ++ (q8c uh) ++ ([.slice ub uf.length uj] : LV))).toArray]) (by kernel_rfl) en15 (c15 w0 w _ _ hI (hT.mono (Hp.le_trans (Hp.le_trans (Hp.le_trans hle25 hle38) hle48) hle52)) ud ue uba ua ui uc (ubc.mono (Hp.le_trans (Hp.le_trans (Hp.le_trans hle25 hle38) hle48) hle52)) ug uh ubb ub uj uf (ubd.mono (Hp.le_trans (Hp.le_trans (Hp.le_trans hle25 hle38) hle48) hle52)) _ hc87) ?_)
         rintro e w ⟨rfl, hI⟩
         refine ⟨_, rfl, ?_⟩
         refine oP (r := [19, 20, 21]) [15, 16, 17, 18] (S' := [(12, .bool x53), (75, .bool (y88 == y50))]) ?_
         by_cases hb89 : (y88 == y50) = true
         ·
          rw [if_pos hb89] at h1
          refine OpsT.keep [12, 75] (S' := [(12, .bool x53), (75, .bool true)]) (by (try simp only [hb89]); kernel_rfl) ?_
          refine oP (r := []) [19, 20, 21] (S' := [(4, .bool x53)]) ?_
          refine oD ?_
          have hI := hI.drop
          have hI := hI.drop
          have e := someS h1
          subst e
          exact jT fun a ha => ⟨x53, rfl, ha.keep [4] (by kernel_rfl), hI⟩
         ·
          rw [if_neg hb89] at h1
          have hb89 : (y88 == y50) = false := by simpa using hb89
          refine OpsT.keep [12, 75] (S' := [(12, .bool x53), (75, .bool false)]) (by (try simp only [hb89]); kernel_rfl) ?_
          refine oP (r := []) [19, 20, 21] (S' := [(4, .bool false)]) ?_
          refine oD ?_
          have hI := hI.drop
          have hI := hI.drop
          have e := someS h1
          subst e
          exact jT fun a ha => ⟨false, rfl, ha.keep [4] (by kernel_rfl), hI⟩
        ·
         rw [if_neg hb86] at h1
         have hb86 : (y15 == y28) = false := by simpa using hb86
         refine OpsT.keep [2, 3, 11, 12, 68] (S' := [(2, pb b1), (3, pb b2), (11, .bool y50), (12, .bool x53), (68, .bool false)]) (by (try simp only [hb86]); kernel_rfl) ?_
         refine oP (r := []) [12, 13, 14, 15, 16, 17, 18, 19, 20, 21] (S' := [(4, .bool false)]) ?_
         refine oD ?_
         have hI := hI.drop
         have hI := hI.drop
         have e := someS h1
         subst e
         exact jT fun a ha => ⟨false, rfl, ha.keep [4] (by kernel_rfl), hI⟩
       ·
        rw [if_neg hb85] at h1
        have hb85 : (seq y14 y27) = false := by simpa using hb85
        refine OpsT.keep [2, 3, 8, 10, 11, 12, 63] (S' := [(2, pb b1), (3, pb b2), (8, .bool y15), (10, .bool y28), (11, .bool y50), (12, .bool x53), (63, .bool false)]) (by (try simp only [hb85]); kernel_rfl) ?_
        refine oP (r := []) [7, 8, 9, 10, 11, 12, 13, 14, 15, 16, 17, 18, 19, 20, 21] (S' := [(4, .bool false)]) ?_
        refine oD ?_
        have hI := hI.drop
        have hI := hI.drop
        have e := someS h1
        subst e
        exact jT fun a ha => ⟨false, rfl, ha.keep [4] (by kernel_rfl), hI⟩
      ·
       rw [if_neg hb84] at h1
       have hb84 : y4 = false := by simpa using hb84
       refine OpsT.keep [2, 3, 7, 8, 9, 10, 11, 12, 58] (S' := [(2, pb b1), (3, pb b2), (7, .string y14), (8, .bool y15), (9, .string y27), (10, .bool y28), (11, .bool y50), (12, .bool x53), (58, .bool false)]) (by (try simp only [hb84]); kernel_rfl) ?_
       refine oP (r := []) [2, 3, 4, 5, 6, 7, 8, 9, 10, 11, 12, 13, 14, 15, 16, 17, 18, 19, 20, 21] (S' := [(4, .bool false)]) ?_
       refine oD ?_
       have hI := hI.drop
       have hI := hI.drop
       have e := someS h1
       subst e
       exact jT fun a ha => ⟨false, rfl, ha.keep [4] (by kernel_rfl), hI⟩
     ·
      rintro a w ⟨x83, rfl, ha, hI⟩
      try dsimp only at h0
      refine CodT.of ?_ ha
      refine jE ?_
      have e := someS h0
      subst e
      refine qK [4] (S' := [(4, .bool x83)]) ?_
      exact post_ret (v := .bool x83) (fun a ha => jU (vs := [.bool x83]) (.tmp (t := 4) (by kernel_rfl) .nil) ha (by kernel_rfl)) ⟨rfl, hI.weaken (Hp.le_trans (Hp.le_trans (Hp.le_trans hle25 hle38) hle48) hle52)⟩
end Go.Cen
