/- The walk of the law BundleLines, printed by a program of ours. -/
import Derived.Test.YtlojedndicppeaaDoorWx3
set_option linter.unusedVariables false
set_option linter.unusedSimpArgs false
namespace Go.Cen
set_option maxRecDepth 100000
set_option maxHeartbeats 4000000
/-- cenotaph/cenotaphlaw11.BundleLines -/
theorem c4 (w0 w : World) (Z : Hp) (A : HP) (hI : Inv w0 Z w A) (hT : Tabs Z) (uc : Int) (ud : (List Int)) (uf : ud.length = 32) (ua : Option Addr) (ue : Nat) (ub : (List ApiEvent)) (ug : RdS Z c_ApiEvent 37 ua ue ub) (r : Bool) (h0 : law11_BundleLines uc ud ub = some r) :
  Calls prog 4 #[.agg ((([iv uc] : LV) ++ (cA (Value.int .u8) ud) ++ ([.slice ua ub.length ue] : LV))).toArray] w (fun e w' => e = .returned (.bool r) ∧ Inv w0 Z w' A) := by
 have e4 := calls_intro (R := (fun e w' => e = .returned (.bool r) ∧ Inv w0 Z w' A)) (w := w) (args := [.agg ((([iv uc] : LV) ++ (cA (Value.int .u8) ud) ++ ([.slice ua ub.length ue] : LV))).toArray]) (fn := Go.Proofs.Tryd.f4) 64 Go.Proofs.Tryd.func4 (by rfl) Go.Proofs.Tryd.ntmps4 (by kernel_rfl)
 refine e4 ?_
 clear e4
 unfold law11_BundleLines at h0
 refine cQ ?_
 refine cR [0, 1] (by kernel_rfl) ?_
 refine oC (Does.boxL (d := 1) (T := 26) (v := .agg ((([iv uc] : LV) ++ (cA (Value.int .u8) ud) ++ ([.slice ua ub.length ue] : LV))).toArray) ((([iv uc] : LV) ++ (cA (Value.int .u8) ud) ++ ([.slice ua ub.length ue] : LV))) (by kernel_rfl) hI (by kernel_rfl) ?_)
 intro b1 w hI
 refine oP (r := []) [1] (S' := [(1, pb b1)]) (by kernel_rfl) ?_
 refine oD ?_
 refine qT ?_
 refine cQ ?_
 refine cR [0, 1] (by kernel_rfl) ?_
 obtain ⟨y3, hc2, h0⟩ := bindS h0
 try dsimp only at h0
 refine oC (Does.call (d := some 8) (n := 7) (vs := []) (by kernel_rfl) en7 (c7 w0 w _ _ hI hT _ hc2) ?_)
 rintro e w ⟨rfl, hI⟩
 refine ⟨_, rfl, ?_⟩
 refine oP (r := []) [1] (S' := [(1, pb b1), (3, .bool y3)]) (by kernel_rfl) ?_
 refine oD ?_
 refine qT ?_
 refine cQ ?_
 refine cQ ?_
 refine cR [0, 1] (by kernel_rfl) ?_
 refine oP (r := []) [0, 1] (S' := [(1, pb b1), (3, .bool y3), (10, .bool (!y3))]) (by kernel_rfl) ?_
 refine oD ?_
 refine qT ?_
 by_cases hb4 : (!y3) = true
 ·
  rw [if_pos hb4] at h0
  refine CodT.yes' (b := !y3) (by kernel_rfl) hb4 ?_
  refine cQ ?_
  refine cR [0] (by kernel_rfl) ?_
  refine oP (r := []) [0] (S' := [(2, .bool false)]) (by kernel_rfl) ?_
  refine oD ?_
  refine qT ?_
  refine CodT.ret ?_
  refine Qn.ret_then ?_
  have hI := hI.drop
  have e := someS h0
  subst e
  refine qK [2] (S' := [(2, .bool false)]) (by kernel_rfl) ?_
  exact post_ret (v := .bool false) (fun a ha => RunRes.run (vs := [.bool false]) (.tmp (t := 2) (by kernel_rfl) .nil) ha (by kernel_rfl)) ⟨rfl, hI⟩
 ·
  rw [if_neg hb4] at h0
  refine CodT.no' (b := !y3) (by kernel_rfl) (by simpa using hb4) ?_
  refine CodT.skip ?_
  refine qT ?_
  refine cQ ?_
  refine cR [0, 1, 2, 3] (by kernel_rfl) ?_
  refine oP (r := [1, 2, 3]) [0] (S' := [(1, pb b1), (3, .bool y3), (11, .pointer (some ⟨b1, 33, none⟩))]) (by kernel_rfl) ?_
  refine oC (Does.yi (Yl.load (d := 12) (T := 24) (v := .slice ua ub.length ue) (by kernel_rfl) (ldB ty24 (l := (([iv uc] : LV) ++ (cA (Value.int .u8) ud) ++ ([.slice ua ub.length ue] : LV))) (o := 33) (v := .slice ua ub.length ue) (ent_refl _) (seg_get [([iv uc] : LV), cA (Value.int .u8) ud, ([.slice ua ub.length ue] : LV)] 2 (by simp [cA_length, uf]) (by simp [cA_length, uf]) rfl))) hI ?_)
  obtain ⟨y6, hc5, h0⟩ := bindS h0
  try dsimp only at h0
  refine oC (Does.call (d := some 13) (n := 8) (vs := [.slice ua ub.length ue]) (by kernel_rfl) en8 (c8 w0 w _ _ hI hT ua ue ub ug _ hc5) ?_)
  rintro e w ⟨rfl, hI⟩
  refine ⟨_, rfl, ?_⟩
  refine oP (r := []) [3] (S' := [(1, pb b1), (3, .bool y3), (4, .bool y6)]) (by kernel_rfl) ?_
  refine oD ?_
  refine qT ?_
  refine cQ ?_
  refine cQ ?_
  refine cR [0, 1] (by kernel_rfl) ?_
  refine oP (r := []) [0, 1] (S' := [(1, pb b1), (3, .bool y3), (15, .bool (!y6))]) (by kernel_rfl) ?_
  refine oD ?_
  refine qT ?_
  by_cases hb7 : (!y6) = true
  ·
   rw [if_pos hb7] at h0
   refine CodT.yes' (b := !y6) (by kernel_rfl) hb7 ?_
   refine cQ ?_
   refine cR [0, 1] (by kernel_rfl) ?_
   refine oP (r := []) [0, 1] (S' := [(2, .bool y3)]) (by kernel_rfl) ?_
   refine oD ?_
   refine qT ?_
   refine CodT.ret ?_
   refine Qn.ret_then ?_
   have hI := hI.drop
   have e := someS h0
   subst e
   refine qK [2] (S' := [(2, .bool y3)]) (by kernel_rfl) ?_
   exact post_ret (v := .bool y3) (fun a ha => RunRes.run (vs := [.bool y3]) (.tmp (t := 2) (by kernel_rfl) .nil) ha (by kernel_rfl)) ⟨rfl, hI⟩
  ·
   rw [if_neg hb7] at h0
   refine CodT.no' (b := !y6) (by kernel_rfl) (by simpa using hb7) ?_
   refine CodT.skip ?_
   refine qT ?_
   refine cQ ?_
   refine cR [0, 1, 2] (by kernel_rfl) ?_
   refine oC (Does.yi (Yl.load (d := 17) (T := 26) (v := .agg ((([iv uc] : LV) ++ (cA (Value.int .u8) ud) ++ ([.slice ua ub.length ue] : LV))).toArray) (by kernel_rfl) (ldBN ty26 (l := (([iv uc] : LV) ++ (cA (Value.int .u8) ud) ++ ([.slice ua ub.length ue] : LV))) (o := 0) (cs := (([iv uc] : LV) ++ (cA (Value.int .u8) ud) ++ ([.slice ua ub.length ue] : LV))) (ent_refl _) (by simp [cA_length, uf]) (whole _ _ (by simp [cA_length, uf])))) hI ?_)
   obtain ⟨y9, hc8, h0⟩ := bindS h0
   try dsimp only at h0
   refine oC (Does.call (d := some 18) (n := 12) (vs := [.agg ((([iv uc] : LV) ++ (cA (Value.int .u8) ud) ++ ([.slice ua ub.length ue] : LV))).toArray]) (by kernel_rfl) en12 (c12 w0 w _ _ hI hT uc ud uf ua ue ub ug _ hc8) ?_)
   rintro e w ⟨A10, cp11, rfl, hI⟩
   refine ⟨_, rfl, ?_⟩
   refine oP (r := []) [2] (S' := [(1, pb b1), (3, .bool y3), (5, .slice A10 y9.length cp11)]) (by kernel_rfl) ?_
   refine oD ?_
   refine qT ?_
   refine cQ ?_
   refine cQ ?_
   refine cR [0, 1, 2, 3, 4, 5] (by kernel_rfl) ?_
   refine oP (r := [3, 4, 5]) [0, 1, 2] (S' := [(1, pb b1), (3, .bool y3), (5, .slice A10 y9.length cp11), (20, iv (y9.length : Int)), (21, .pointer (some ⟨b1, 33, none⟩))]) (by kernel_rfl) ?_
   refine oC (Does.yi (Yl.load (d := 22) (T := 24) (v := .slice ua ub.length ue) (by kernel_rfl) (ldB ty24 (l := (([iv uc] : LV) ++ (cA (Value.int .u8) ud) ++ ([.slice ua ub.length ue] : LV))) (o := 33) (v := .slice ua ub.length ue) (pick2 _ _ _) (seg_get [([iv uc] : LV), cA (Value.int .u8) ud, ([.slice ua ub.length ue] : LV)] 2 (by simp [cA_length, uf]) (by simp [cA_length, uf]) rfl))) hI ?_)
   refine oP (r := []) [4, 5] (S' := [(1, pb b1), (3, .bool y3), (5, .slice A10 y9.length cp11), (24, .bool ((y9.length : Int) != (ub.length : Int)))]) (by kernel_rfl) ?_
   refine oD ?_
   refine qT ?_
   by_cases hb12 : ((y9.length : Int) != (ub.length : Int)) = true
   ·
    rw [if_pos hb12] at h0
    refine CodT.yes' (b := (y9.length : Int) != (ub.length : Int)) (by kernel_rfl) hb12 ?_
    refine cQ ?_
    refine cR [0] (by kernel_rfl) ?_
    refine oP (r := []) [0] (S' := [(2, .bool false)]) (by kernel_rfl) ?_
    refine oD ?_
    refine qT ?_
    refine CodT.ret ?_
    refine Qn.ret_then ?_
    have hI := hI.drop
    have hI := hI.drop
    have e := someS h0
    subst e
    refine qK [2] (S' := [(2, .bool false)]) (by kernel_rfl) ?_
    exact post_ret (v := .bool false) (fun a ha => RunRes.run (vs := [.bool false]) (.tmp (t := 2) (by kernel_rfl) .nil) ha (by kernel_rfl)) ⟨rfl, hI⟩
   ·
    rw [if_neg hb12] at h0
    refine CodT.no' (b := (y9.length : Int) != (ub.length : Int)) (by kernel_rfl) (by simpa using hb12) ?_
    refine CodT.skip ?_
    refine qT ?_
    refine cQ ?_
    refine cQ ?_
    refine cR [0] (by kernel_rfl) ?_
    refine oP (r := []) [0] (S' := [(1, pb b1), (3, .bool y3), (5, .slice A10 y9.length cp11), (6, iv 0)]) (by kernel_rfl) ?_
    refine oD ?_
    refine qT ?_
    obtain ⟨r1, h1, h0⟩ := bindS h0
    refine CodT.meet1 (fun a w => .inr () = r1 ∧ Fr 64 [(3, .bool y3)] a ∧ Inv w0 Z w A) ?_ ?_
    ·
     refine CodT.block ?_
     have hI := hI.mono (pick2 _ _ _)
     refine (fun a ha => wp_loopN (fun k a w => ∃ (x13 : Int), law11_BundleLines.l0 y9 ub k x13 = some r1 ∧ Fr 64 [(1, pb b1), (3, .bool y3), (5, .slice A10 y9.length cp11), (6, iv x13)] a ∧ Inv w0 Z w (star (pt b1 (.cells ((([iv uc] : LV) ++ (cA (Value.int .u8) ud) ++ ([.slice ua ub.length ue] : LV))).toArray 26 (0, 0))) (star (ownS 9 cS 1 A10 cp11 y9) A))) ?_ FU a w ⟨0, h1, ha.keep [1, 3, 5, 6] (by kernel_rfl), hI⟩)
     clear h1 hI
     rintro k a w ⟨x13, h1, ha, hI⟩
     rcases k with _ | k
     ·
      cases h1
     simp only [law11_BundleLines.l0] at h1
     refine CodT.of ?_ ha
     refine cQ ?_
     refine cQ ?_
     refine cR [0, 1, 2, 3] (by kernel_rfl) ?_
     refine oP (r := []) [0, 1, 2, 3] (S' := [(1, pb b1), (3, .bool y3), (5, .slice A10 y9.length cp11), (6, iv x13), (28, .bool (decide (x13 < (y9.length : Int))))]) (by kernel_rfl) ?_
     refine oD ?_
     refine qT ?_
     by_cases hb14 : (decide (x13 < (y9.length : Int))) = true
     ·
      rw [if_pos hb14] at h1
      refine CodT.yes' (b := decide (x13 < (y9.length : Int))) (by kernel_rfl) hb14 ?_
      refine CodT.skip ?_
      refine qT ?_
      refine cQ ?_
      refine CodT.block ?_
      refine cQ ?_
      refine cR [0, 1, 2, 3, 4, 5, 6] (by kernel_rfl) ?_
      refine oP (r := [1, 2, 3, 4, 5, 6]) [0] (S' := [(1, pb b1), (3, .bool y3), (5, .slice A10 y9.length cp11), (6, iv x13), (31, .pointer (some ⟨b1, 33, none⟩))]) (by kernel_rfl) ?_
      refine oC (Does.yi (Yl.load (d := 32) (T := 24) (v := .slice ua ub.length ue) (by kernel_rfl) (ldB ty24 (l := (([iv uc] : LV) ++ (cA (Value.int .u8) ud) ++ ([.slice ua ub.length ue] : LV))) (o := 33) (v := .slice ua ub.length ue) (ent_refl _) (seg_get [([iv uc] : LV), cA (Value.int .u8) ud, ([.slice ua ub.length ue] : LV)] 2 (by simp [cA_length, uf]) (by simp [cA_length, uf]) rfl))) hI ?_)
      refine oP (r := [3, 4, 5, 6]) [2] (S' := [(1, pb b1), (3, .bool y3), (5, .slice A10 y9.length cp11), (6, iv x13), (32, .slice ua ub.length ue), (33, iv x13)]) (by kernel_rfl) ?_
      obtain ⟨hg15, h1⟩ := guardS h1
      obtain ⟨g16, o20, hA17, hr18, hl19⟩ := RdS.get ug hg15.1 hg15.2
      refine oC (Does.yi (Yl.indexSlice (d := 34) (T := 24) (cc := ue) (k := .i64) (j := x13) (g := g16) (o := o20) (by kernel_rfl) Go.Proofs.Tryd.underlying24 ty40 hA17 hg15.1 hg15.2) hI ?_)
      refine oC (Does.yi (Yl.load (d := 35) (T := 40) (v := .agg (c_ApiEvent (gt ub x13)).toArray) (by kernel_rfl) (ldRN ty40 (cs := c_ApiEvent (gt ub x13)) 0 (fun w hC => hr18 w0 w _ hC) hl19 (whole _ _ hl19))) hI ?_)
      obtain ⟨y22, hc21, h1⟩ := bindS h1
      try dsimp only at h1
      refine oC (Does.call (d := some 36) (n := 13) (vs := [.agg (c_ApiEvent (gt ub x13)).toArray]) (by kernel_rfl) en13 (c13 w0 w _ _ hI hT (gt ub x13) (inv_ApiEvent _ hl19) _ hc21) ?_)
      rintro e w ⟨rfl, hI⟩
      refine ⟨_, rfl, ?_⟩
      refine oP (r := []) [6] (S' := [(1, pb b1), (3, .bool y3), (5, .slice A10 y9.length cp11), (6, iv x13), (7, .string y22)]) (by kernel_rfl) ?_
      refine oD ?_
      refine qT ?_
      obtain ⟨r2, h2, h1⟩ := bindS h1
      refine CodT.meet (fun a w => ∃ (x23 : Bool), x23 = r2 ∧ Fr 64 [(1, pb b1), (3, .bool y3), (5, .slice A10 y9.length cp11), (6, iv x13), (62, .bool x23)] a ∧ Inv w0 Z w (star (pt b1 (.cells ((([iv uc] : LV) ++ (cA (Value.int .u8) ud) ++ ([.slice ua ub.length ue] : LV))).toArray 26 (0, 0))) (star (ownS 9 cS 1 A10 cp11 y9) A))) ?_ ?_
      ·
       refine CodT.drawI (n := 26) [] (by kernel_rfl) (by kernel_rfl) hI ?_
       intro w hI
       refine GmT.p' 0 37 (.slice A10 y9.length cp11) (by kernel_rfl) (by kernel_rfl) ?_
       refine GmT.p' 1 38 (iv x13) (by kernel_rfl) (by kernel_rfl) ?_
       refine GmT.p' 5 42 (.string y22) (by kernel_rfl) (by kernel_rfl) ?_
       refine GmT.p' 6 43 (iv (y22.size : Int)) (by kernel_rfl) (by kernel_rfl) ?_
       refine GmT.p' 7 44 (iv (wi64 ((y22.size : Int) + 3))) (by kernel_rfl) (by kernel_rfl) ?_
       obtain ⟨hg24, h2⟩ := guardS h2
       obtain ⟨g25, hA26, hr27, hl28⟩ := ownS_get (hI.mono (pick2 _ _ _)) hg24.1 hg24.2
       refine GmT.r (i := 2) 2 (by kernel_rfl) (by kernel_rfl) (Yl.indexSlice (d := 39) (T := 35) (cc := cp11) (k := .i64) (j := x13) (g := g25) (o := 0) (by kernel_rfl) Go.Proofs.Tryd.underlying35 ty9 hA26 hg24.1 hg24.2) hI ?_
       refine GmT.r (i := 3) 2 (by kernel_rfl) (by kernel_rfl) (Yl.load (d := 40) (T := 9) (v := .string (gt y9 x13)) (by kernel_rfl) (ldR ty9 (v := .string (gt y9 x13)) 0 (fun w hC => hr27 w0 w _ (hC.mono (pick2 _ _ _))) (by kernel_rfl))) hI ?_
       refine GmT.p' 4 41 (iv ((gt y9 x13).size : Int)) (by kernel_rfl) (by kernel_rfl) ?_
       refine GmT.p' 8 45 (.bool (decide (((gt y9 x13).size : Int) < (wi64 ((y22.size : Int) + 3))))) (by kernel_rfl) (by kernel_rfl) ?_
       refine GmT.p' 9 46 (.bool (decide (((gt y9 x13).size : Int) < (wi64 ((y22.size : Int) + 3))))) (by kernel_rfl) (by kernel_rfl) ?_
       by_cases hb29 : (decide (((gt y9 x13).size : Int) < (wi64 ((y22.size : Int) + 3)))) = true
       ·
        rw [if_pos hb29] at h2
        refine GmT.keep [1, 3, 5, 6, 7, 46] (S' := [(1, pb b1), (3, .bool y3), (5, .slice A10 y9.length cp11), (6, iv x13), (7, .string y22), (46, .bool true)]) (by (try simp only [hb29]); kernel_rfl) ?_
        refine GmT.p' 10 47 (undef) (by kernel_rfl) (by kernel_rfl) ?_
        refine GmT.p' 11 48 (undef) (by kernel_rfl) (by kernel_rfl) ?_
        refine GmT.p' 12 49 (undef) (by kernel_rfl) (by kernel_rfl) ?_
        refine GmT.p' 13 50 (undef) (by kernel_rfl) (by kernel_rfl) ?_
        refine GmT.p' 14 51 (undef) (by kernel_rfl) (by kernel_rfl) ?_
        refine GmT.p' 15 52 (undef) (by kernel_rfl) (by kernel_rfl) ?_
        refine GmT.p' 16 53 (undef) (by kernel_rfl) (by kernel_rfl) ?_
        refine GmT.p' 17 54 (undef) (by kernel_rfl) (by kernel_rfl) ?_
        refine GmT.p' 18 55 (undef) (by kernel_rfl) (by kernel_rfl) ?_
        refine GmT.p' 19 56 (undef) (by kernel_rfl) (by kernel_rfl) ?_
        refine GmT.p' 20 57 (undef) (by kernel_rfl) (by kernel_rfl) ?_
        refine GmT.p' 21 58 (undef) (by kernel_rfl) (by kernel_rfl) ?_
        refine GmT.p' 22 59 (undef) (by kernel_rfl) (by kernel_rfl) ?_
        refine GmT.p' 23 60 (undef) (by kernel_rfl) (by kernel_rfl) ?_
        refine GmT.p' 24 61 (undef) (by kernel_rfl) (by kernel_rfl) ?_
        refine GmT.p' 25 62 (.bool true) (by kernel_rfl) (by kernel_rfl) ?_
        refine GmT.done (by kernel_rfl) ?_
        have e := someS h2
        subst e
        exact Qn.thenJ fun a ha => ⟨true, rfl, ha.keep [1, 3, 5, 6, 62] (by kernel_rfl), hI⟩
       ·
        rw [if_neg hb29] at h2
        have hb29 : (decide (((gt y9 x13).size : Int) < (wi64 ((y22.size : Int) + 3)))) = false := by simpa using hb29
        refine GmT.keep [1, 3, 5, 6, 7, 46] (S' := [(1, pb b1), (3, .bool y3), (5, .slice A10 y9.length cp11), (6, iv x13), (7, .string y22), (46, .bool false)]) (by (try simp only [hb29]); kernel_rfl) ?_
        refine GmT.p' 10 47 (.slice A10 y9.length cp11) (by kernel_rfl) (by kernel_rfl) ?_
        refine GmT.p' 11 48 (iv x13) (by kernel_rfl) (by kernel_rfl) ?_
        refine GmT.p' 14 51 (.slice A10 y9.length cp11) (by kernel_rfl) (by kernel_rfl) ?_
        refine GmT.p' 15 52 (iv x13) (by kernel_rfl) (by kernel_rfl) ?_
        refine GmT.p' 19 56 (.string y22) (by kernel_rfl) (by kernel_rfl) ?_
        refine GmT.p' 20 57 (iv (y22.size : Int)) (by kernel_rfl) (by kernel_rfl) ?_
        refine GmT.p' 23 60 (.string y22) (by kernel_rfl) (by kernel_rfl) ?_
        obtain ⟨hg30, h2⟩ := guardS h2
        obtain ⟨g31, hA32, hr33, hl34⟩ := ownS_get (hI.mono (pick2 _ _ _)) hg30.1 hg30.2
        refine GmT.r (i := 12) 2 (by kernel_rfl) (by kernel_rfl) (Yl.indexSlice (d := 49) (T := 35) (cc := cp11) (k := .i64) (j := x13) (g := g31) (o := 0) (by kernel_rfl) Go.Proofs.Tryd.underlying35 ty9 hA32 hg30.1 hg30.2) hI ?_
        refine GmT.r (i := 13) 2 (by kernel_rfl) (by kernel_rfl) (Yl.load (d := 50) (T := 9) (v := .string (gt y9 x13)) (by kernel_rfl) (ldR ty9 (v := .string (gt y9 x13)) 0 (fun w hC => hr33 w0 w _ (hC.mono (pick2 _ _ _))) (by kernel_rfl))) hI ?_
        obtain ⟨hg35, h2⟩ := guardS h2
        obtain ⟨g36, hA37, hr38, hl39⟩ := ownS_get (hI.mono (pick2 _ _ _)) hg35.1 hg35.2
        refine GmT.r (i := 16) 2 (by kernel_rfl) (by kernel_rfl) (Yl.indexSlice (d := 53) (T := 35) (cc := cp11) (k := .i64) (j := x13) (g := g36) (o := 0) (by kernel_rfl) Go.Proofs.Tryd.underlying35 ty9 hA37 hg35.1 hg35.2) hI ?_
        refine GmT.r (i := 17) 2 (by kernel_rfl) (by kernel_rfl) (Yl.load (d := 54) (T := 9) (v := .string (gt y9 x13)) (by kernel_rfl) (ldR ty9 (v := .string (gt y9 x13)) 0 (fun w hC => hr38 w0 w _ (hC.mono (pick2 _ _ _))) (by kernel_rfl))) hI ?_
        refine GmT.p' 18 55 (iv ((gt y9 x13).size : Int)) (by kernel_rfl) (by kernel_rfl) ?_
        refine GmT.p' 21 58 (iv (wi64 (((gt y9 x13).size : Int) - (y22.size : Int)))) (by kernel_rfl) (by kernel_rfl) ?_
        obtain ⟨hg40, h2⟩ := guardS h2
        refine GmT.r (i := 22) 2 (by kernel_rfl) (by kernel_rfl) (Yl.sliceStr10 (d := 59) (T := 9) (s := gt y9 x13) (lo := wi64 (((gt y9 x13).size : Int) - (y22.size : Int))) (by kernel_rfl) Go.Proofs.Tryd.underlying9 hg40) hI ?_
        refine GmT.p' 24 61 (.bool (!(seq (sx (gt y9 x13) (wi64 (((gt y9 x13).size : Int) - (y22.size : Int))) ((gt y9 x13).size : Int)) y22))) (by kernel_rfl) (by kernel_rfl) ?_
        refine GmT.p' 25 62 (.bool (!(seq (sx (gt y9 x13) (wi64 (((gt y9 x13).size : Int) - (y22.size : Int))) ((gt y9 x13).size : Int)) y22))) (by kernel_rfl) (by kernel_rfl) ?_
        refine GmT.done (by kernel_rfl) ?_
        have e := someS h2
        subst e
        exact Qn.thenJ fun a ha => ⟨!(seq (sx (gt y9 x13) (wi64 (((gt y9 x13).size : Int) - (y22.size : Int))) ((gt y9 x13).size : Int)) y22), rfl, ha.keep [1, 3, 5, 6, 62] (by kernel_rfl), hI⟩
      ·
       rintro a w ⟨x23, rfl, ha, hI⟩
       try dsimp only at h1
       refine CodT.of ?_ ha
       by_cases hb41 : x23 = true
       ·
        rw [if_pos hb41] at h1
        refine CodT.yes' (b := x23) (by kernel_rfl) hb41 ?_
        refine cQ ?_
        refine cR [0] (by kernel_rfl) ?_
        refine oP (r := []) [0] (S' := [(2, .bool false)]) (by kernel_rfl) ?_
        refine oD ?_
        refine qT ?_
        refine CodT.ret ?_
        refine Qn.block_ret ?_
        refine Qn.ret_then ?_
        refine Qn.ret_then ?_
        refine Qn.block_ret ?_
        refine Qn.ret_then ?_
        refine Qn.ret_then ?_
        have hI := hI.drop
        have hI := hI.drop
        have e := someS h1
        subst e
        try dsimp only at h0
        have e := someS h0
        subst e
        refine qK [2] (S' := [(2, .bool false)]) (by kernel_rfl) ?_
        exact post_ret (v := .bool false) (fun a ha => RunRes.run (vs := [.bool false]) (.tmp (t := 2) (by kernel_rfl) .nil) ha (by kernel_rfl)) ⟨rfl, hI⟩
       ·
        rw [if_neg hb41] at h1
        refine CodT.no' (b := x23) (by kernel_rfl) (by simpa using hb41) ?_
        refine CodT.skip ?_
        refine Qn.block_normal ?_
        refine qT ?_
        refine cR [0, 1, 2] (by kernel_rfl) ?_
        refine oP (r := []) [0, 1, 2] (S' := [(1, pb b1), (3, .bool y3), (5, .slice A10 y9.length cp11), (6, iv (wi64 (x13 + 1)))]) (by kernel_rfl) ?_
        refine oD ?_
        exact Qn.thenJ fun a ha => ⟨k, Nat.lt_succ_self k, wi64 (x13 + 1), h1, ha.keep [1, 3, 5, 6] (by kernel_rfl), hI⟩
     ·
      rw [if_neg hb14] at h1
      refine CodT.no' (b := decide (x13 < (y9.length : Int))) (by kernel_rfl) (by simpa using hb14) ?_
      refine CodT.exit ?_
      refine Qn.exit_then ?_
      refine Qn.exit_then ?_
      refine Qn.block ?_
      have hI := hI.drop
      have hI := hI.drop
      have e := someS h1
      subst e
      exact Qn.thenJ fun a ha => ⟨rfl, ha.keep [3] (by kernel_rfl), hI⟩
    ·
     rintro a w ⟨rfl, ha, hI⟩
     try dsimp only at h0
     refine Qn.of ?_ ha
     refine qT ?_
     refine cQ ?_
     refine cR [0, 1] (by kernel_rfl) ?_
     refine oP (r := []) [0, 1] (S' := [(2, .bool y3)]) (by kernel_rfl) ?_
     refine oD ?_
     refine qT ?_
     refine CodT.ret ?_
     have e := someS h0
     subst e
     refine qK [2] (S' := [(2, .bool y3)]) (by kernel_rfl) ?_
     exact post_ret (v := .bool y3) (fun a ha => RunRes.run (vs := [.bool y3]) (.tmp (t := 2) (by kernel_rfl) .nil) ha (by kernel_rfl)) ⟨rfl, hI⟩
end Go.Cen
