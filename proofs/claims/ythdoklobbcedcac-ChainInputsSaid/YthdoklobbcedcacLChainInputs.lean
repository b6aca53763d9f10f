/- The walk of the law ChainInputs, printed by a program of ours. -/
import Derived.Test.YthdoklobbcedcacWx4
set_option linter.unusedVariables false
set_option linter.unusedSimpArgs false
namespace Go.Cen
set_option maxRecDepth 100000
set_option maxHeartbeats 4000000
/-- cenotaph/cenotaphlaw06.ChainInputs -/
theorem c7 (w0 w : World) (Z : Hp) (A : HP) (hI : Inv w0 Z w A) (A_a0 : Option Addr) (c_a0 : Nat) (a0 : (List ApiEvent)) (hr_a0 : RdS Z c_ApiEvent 37 A_a0 c_a0 a0) (a1 : Int) (r : Bool) (h0 : law06_ChainInputs a0 a1 = some r) :
  Calls prog 7 #[.slice A_a0 a0.length c_a0, iv a1] w (fun e w' => e = .returned (.bool r) ∧ Inv w0 Z w' A) := by
 have e4 := calls_intro (R := (fun e w' => e = .returned (.bool r) ∧ Inv w0 Z w' A)) (w := w) (args := [.slice A_a0 a0.length c_a0, iv a1]) (fn := Go.Proofs.Try.f7) 95 Go.Proofs.Try.func7 (by rfl) Go.Proofs.Try.ntmps7 (by kernel_rfl)
 refine e4 ?_
 clear e4
 unfold law06_ChainInputs at h0
 refine cQ ?_
 refine cR [0] (by kernel_rfl) ?_
 refine oP (r := []) [0] (S' := [(0, .slice A_a0 a0.length c_a0), (1, iv a1)]) (by kernel_rfl) ?_
 refine oD ?_
 refine qT ?_
 refine cQ ?_
 refine cR [0, 1] (by kernel_rfl) ?_
 obtain ⟨y2, hc1, h0⟩ := bindS h0
 try dsimp only at h0
 refine oC (Does.call (d := some 12) (n := 8) (vs := []) (by kernel_rfl) en8 (c8 w0 w _ _ hI _ hc1) ?_)
 rintro e w ⟨rfl, hI⟩
 refine ⟨_, rfl, ?_⟩
 refine oP (r := []) [1] (S' := [(0, .slice A_a0 a0.length c_a0), (1, iv a1), (5, .bool y2)]) (by kernel_rfl) ?_
 refine oD ?_
 refine qT ?_
 refine cQ ?_
 refine cQ ?_
 refine cR [0, 1] (by kernel_rfl) ?_
 refine oP (r := []) [0, 1] (S' := [(0, .slice A_a0 a0.length c_a0), (1, iv a1), (5, .bool y2), (14, .bool (!y2))]) (by kernel_rfl) ?_
 refine oD ?_
 refine qT ?_
 by_cases hb3 : (!y2) = true
 ·
  rw [if_pos hb3] at h0
  refine CodT.yes' (b := !y2) (by kernel_rfl) hb3 ?_
  refine cQ ?_
  refine cR [0] (by kernel_rfl) ?_
  refine oP (r := []) [0] (S' := [(4, .bool false)]) (by kernel_rfl) ?_
  refine oD ?_
  refine qT ?_
  refine CodT.ret ?_
  refine Qn.ret_then ?_
  have e := someS h0
  subst e
  refine qK [4] (S' := [(4, .bool false)]) (by kernel_rfl) ?_
  exact post_ret (v := .bool false) (fun a ha => RunRes.run (vs := [.bool false]) (.tmp (t := 4) (by kernel_rfl) .nil) ha (by kernel_rfl)) ⟨rfl, hI⟩
 ·
  rw [if_neg hb3] at h0
  refine CodT.no' (b := !y2) (by kernel_rfl) (by simpa using hb3) ?_
  refine CodT.skip ?_
  refine qT ?_
  refine cQ ?_
  refine cR [0, 1, 2] (by kernel_rfl) ?_
  refine oP (r := [1, 2]) [0] (S' := [(0, .slice A_a0 a0.length c_a0), (1, iv a1), (5, .bool y2), (15, .slice A_a0 a0.length c_a0)]) (by kernel_rfl) ?_
  obtain ⟨y5, hc4, h0⟩ := bindS h0
  try dsimp only at h0
  refine oC (Does.call (d := some 16) (n := 9) (vs := [.slice A_a0 a0.length c_a0]) (by kernel_rfl) en9 (c9 w0 w _ _ hI A_a0 c_a0 a0 hr_a0 _ hc4) ?_)
  rintro e w ⟨rfl, hI⟩
  refine ⟨_, rfl, ?_⟩
  refine oP (r := []) [2] (S' := [(0, .slice A_a0 a0.length c_a0), (1, iv a1), (5, .bool y2), (6, .bool y5)]) (by kernel_rfl) ?_
  refine oD ?_
  refine qT ?_
  refine cQ ?_
  refine cQ ?_
  refine cR [0, 1] (by kernel_rfl) ?_
  refine oP (r := []) [0, 1] (S' := [(0, .slice A_a0 a0.length c_a0), (1, iv a1), (5, .bool y2), (18, .bool (!y5))]) (by kernel_rfl) ?_
  refine oD ?_
  refine qT ?_
  by_cases hb6 : (!y5) = true
  ·
   rw [if_pos hb6] at h0
   refine CodT.yes' (b := !y5) (by kernel_rfl) hb6 ?_
   refine cQ ?_
   refine cR [0, 1] (by kernel_rfl) ?_
   refine oP (r := []) [0, 1] (S' := [(4, .bool y2)]) (by kernel_rfl) ?_
   refine oD ?_
   refine qT ?_
   refine CodT.ret ?_
   refine Qn.ret_then ?_
   have e := someS h0
   subst e
   refine qK [4] (S' := [(4, .bool y2)]) (by kernel_rfl) ?_
   exact post_ret (v := .bool y2) (fun a ha => RunRes.run (vs := [.bool y2]) (.tmp (t := 4) (by kernel_rfl) .nil) ha (by kernel_rfl)) ⟨rfl, hI⟩
  ·
   rw [if_neg hb6] at h0
   refine CodT.no' (b := !y5) (by kernel_rfl) (by simpa using hb6) ?_
   refine CodT.skip ?_
   refine qT ?_
   refine cQ ?_
   refine cR [0, 1, 2] (by kernel_rfl) ?_
   refine oP (r := [1, 2]) [0] (S' := [(0, .slice A_a0 a0.length c_a0), (1, iv a1), (5, .bool y2), (20, .slice A_a0 a0.length c_a0)]) (by kernel_rfl) ?_
   obtain ⟨y8, hc7, h0⟩ := bindS h0
   try dsimp only at h0
   refine oC (Does.call (d := some 21) (n := 13) (vs := [.slice A_a0 a0.length c_a0]) (by kernel_rfl) en13 (c13 w0 w _ _ hI A_a0 c_a0 a0 hr_a0 _ hc7) ?_)
   rintro e w ⟨A9, cp10, rfl, hI⟩
   refine ⟨_, rfl, ?_⟩
   refine oP (r := []) [2] (S' := [(0, .slice A_a0 a0.length c_a0), (1, iv a1), (5, .bool y2), (7, .slice A9 y8.length cp10)]) (by kernel_rfl) ?_
   refine oD ?_
   refine qT ?_
   refine cQ ?_
   refine cR [0, 1, 2, 3] (by kernel_rfl) ?_
   refine oP (r := [2, 3]) [0, 1] (S' := [(0, .slice A_a0 a0.length c_a0), (1, iv a1), (5, .bool y2), (7, .slice A9 y8.length cp10), (22, .slice A_a0 a0.length c_a0), (23, iv a1)]) (by kernel_rfl) ?_
   obtain ⟨y12, hc11, h0⟩ := bindS h0
   try dsimp only at h0
   refine oC (Does.call (d := some 24) (n := 18) (vs := [.slice A_a0 a0.length c_a0, iv a1]) (by kernel_rfl) en18 (c18 w0 w _ _ hI A_a0 c_a0 a0 hr_a0 a1 _ hc11) ?_)
   rintro e w ⟨rfl, hI⟩
   refine ⟨_, rfl, ?_⟩
   refine oP (r := []) [3] (S' := [(0, .slice A_a0 a0.length c_a0), (1, iv a1), (5, .bool y2), (7, .slice A9 y8.length cp10), (8, .string y12)]) (by kernel_rfl) ?_
   refine oD ?_
   refine qT ?_
   refine cQ ?_
   obtain ⟨r1, h1, h0⟩ := bindS h0
   refine CodT.meet (fun a w => ∃ (x13 : Bool), x13 = r1 ∧ Fr 95 [(0, .slice A_a0 a0.length c_a0), (1, iv a1), (5, .bool y2), (7, .slice A9 y8.length cp10), (8, .string y12), (32, .bool x13)] a ∧ Inv w0 Z w (star (ownS 29 (cA (Value.int .u8)) 32 A9 cp10 y8) A)) ?_ ?_
   ·
    refine cR [0, 1, 2, 3, 4, 5, 6, 7] (by kernel_rfl) ?_
    refine oP (r := [3, 4, 5, 6, 7]) [0, 1, 2] (S' := [(0, .slice A_a0 a0.length c_a0), (1, iv a1), (5, .bool y2), (7, .slice A9 y8.length cp10), (8, .string y12), (27, .bool (decide (a1 < 0)))]) (by kernel_rfl) ?_
    by_cases hb14 : (decide (a1 < 0)) = true
    ·
     rw [if_pos hb14] at h1
     refine oK [0, 1, 5, 7, 8, 27] (S' := [(0, .slice A_a0 a0.length c_a0), (1, iv a1), (5, .bool y2), (7, .slice A9 y8.length cp10), (8, .string y12), (27, .bool true)]) (by simp only [hb14]; kernel_rfl) ?_
     refine oP (r := []) [3, 4, 5, 6, 7] (S' := [(0, .slice A_a0 a0.length c_a0), (1, iv a1), (5, .bool y2), (7, .slice A9 y8.length cp10), (8, .string y12), (32, .bool true)]) (by kernel_rfl) ?_
     refine oD ?_
     have e := someS h1
     subst e
     exact Qn.thenJ fun a ha => ⟨true, rfl, ha.keep [0, 1, 5, 7, 8, 32] (by kernel_rfl), hI⟩
    ·
     rw [if_neg hb14] at h1
     have hb14 : (decide (a1 < 0)) = false := by simpa using hb14
     refine oK [0, 1, 5, 7, 8, 27] (S' := [(0, .slice A_a0 a0.length c_a0), (1, iv a1), (5, .bool y2), (7, .slice A9 y8.length cp10), (8, .string y12), (27, .bool false)]) (by simp only [hb14]; kernel_rfl) ?_
     refine oP (r := []) [3, 4, 5, 6, 7] (S' := [(0, .slice A_a0 a0.length c_a0), (1, iv a1), (5, .bool y2), (7, .slice A9 y8.length cp10), (8, .string y12), (32, .bool (decide (a1 ≥ (y8.length : Int))))]) (by kernel_rfl) ?_
     refine oD ?_
     have e := someS h1
     subst e
     exact Qn.thenJ fun a ha => ⟨decide (a1 ≥ (y8.length : Int)), rfl, ha.keep [0, 1, 5, 7, 8, 32] (by kernel_rfl), hI⟩
   ·
    rintro a w ⟨x13, rfl, ha, hI⟩
    try dsimp only at h0
    refine CodT.of ?_ ha
    by_cases hb15 : x13 = true
    ·
     rw [if_pos hb15] at h0
     refine CodT.yes' (b := x13) (by kernel_rfl) hb15 ?_
     obtain ⟨r1, h1, h0⟩ := bindS h0
     refine CodT.meet (fun a w => ∃ (x16 : Bool), x16 = r1 ∧ Fr 95 [(4, .bool x16)] a ∧ Inv w0 Z w A) ?_ ?_
     ·
      refine cR [0, 1, 2, 3, 4, 5] (by kernel_rfl) ?_
      refine oP (r := [2, 3, 4, 5]) [0, 1] (S' := [(8, .string y12), (34, .bool y2)]) (by kernel_rfl) ?_
      by_cases hb17 : y2 = true
      ·
       rw [if_pos hb17] at h1
       refine oK [8, 34] (S' := [(8, .string y12), (34, .bool true)]) (by simp only [hb17]; kernel_rfl) ?_
       refine oP (r := []) [2, 3, 4, 5] (S' := [(4, .bool (seq y12 (⟨#[]⟩ : ByteArray)))]) (by kernel_rfl) ?_
       refine oD ?_
       have hI := hI.drop
       have e := someS h1
       subst e
       exact Qn.thenJ fun a ha => ⟨seq y12 (⟨#[]⟩ : ByteArray), rfl, ha.keep [4] (by kernel_rfl), hI⟩
      ·
       rw [if_neg hb17] at h1
       have hb17 : y2 = false := by simpa using hb17
       refine oK [8, 34] (S' := [(8, .string y12), (34, .bool false)]) (by simp only [hb17]; kernel_rfl) ?_
       refine oP (r := []) [2, 3, 4, 5] (S' := [(4, .bool false)]) (by kernel_rfl) ?_
       refine oD ?_
       have hI := hI.drop
       have e := someS h1
       subst e
       exact Qn.thenJ fun a ha => ⟨false, rfl, ha.keep [4] (by kernel_rfl), hI⟩
     ·
      rintro a w ⟨x16, rfl, ha, hI⟩
      try dsimp only at h0
      refine CodT.of ?_ ha
      refine CodT.ret ?_
      refine Qn.ret_then ?_
      have e := someS h0
      subst e
      refine qK [4] (S' := [(4, .bool x16)]) (by kernel_rfl) ?_
      exact post_ret (v := .bool x16) (fun a ha => RunRes.run (vs := [.bool x16]) (.tmp (t := 4) (by kernel_rfl) .nil) ha (by kernel_rfl)) ⟨rfl, hI⟩
    ·
     rw [if_neg hb15] at h0
     refine CodT.no' (b := x13) (by kernel_rfl) (by simpa using hb15) ?_
     refine CodT.skip ?_
     refine qT ?_
     refine cQ ?_
     refine cQ ?_
     refine CodT.drawI (n := 7) [] (by kernel_rfl) (by kernel_rfl) hI ?_
     intro w hI
     refine GmT.p' 0 38 (.string y12) (by kernel_rfl) (by kernel_rfl) ?_
     refine GmT.p' 2 40 (.slice A9 y8.length cp10) (by kernel_rfl) (by kernel_rfl) ?_
     refine GmT.p' 3 41 (iv a1) (by kernel_rfl) (by kernel_rfl) ?_
     obtain ⟨hg18, h0⟩ := guardS h0
     obtain ⟨g19, hA20, hr21, hl22⟩ := ownS_get hI hg18.1 hg18.2
     refine GmT.r (i := 4) 2 (by kernel_rfl) (by kernel_rfl) (Yl.indexSlice (d := 42) (T := 32) (cc := cp10) (k := .i64) (j := a1) (g := g19) (o := 0) (by kernel_rfl) Go.Proofs.Try.underlying32 ty29 hA20 hg18.1 hg18.2) hI ?_
     refine GmT.r (i := 5) 2 (by kernel_rfl) (by kernel_rfl) (Yl.load (d := 43) (T := 29) (v := .agg (cA (Value.int .u8) (gt y8 a1)).toArray) (by kernel_rfl) (ldRN ty29 (cs := cA (Value.int .u8) (gt y8 a1)) 0 (fun w hC => hr21 w0 w _ hC) ((cA_length _ _).trans ((cA_length _ _).symm.trans hl22)) (whole _ _ ((cA_length _ _).trans ((cA_length _ _).symm.trans hl22))))) hI ?_
     obtain ⟨y24, hc23, h0⟩ := bindS h0
     try dsimp only at h0
     refine GmT.o (i := 1) (by kernel_rfl) (Does.call (d := some 39) (n := 16) (vs := [.string y12]) (by kernel_rfl) en16 (c16 w0 w _ _ hI y12 _ hc23) ?_)
     rintro e w ⟨rfl, hl25, hI⟩
     refine ⟨_, rfl, ?_⟩
     refine ⟨fun _ _ => hI, ?_⟩
     refine GmT.r (i := 6) 2 (by kernel_rfl) (by kernel_rfl) (Yl.neqA (k := .u8) (d := 44) (T := 29) (xs := y24) (ys := gt y8 a1) (by kernel_rfl) Go.Proofs.Try.underlying29 (by kernel_rfl) Go.Proofs.Try.underlying5 ty5 hl25 ((cA_length _ _).symm.trans hl22)) hI ?_
     refine GmT.done (by kernel_rfl) ?_
     refine qT ?_
     by_cases hb26 : (!(eqA y24 (gt y8 a1))) = true
     ·
      rw [if_pos hb26] at h0
      refine CodT.yes' (b := !(eqA y24 (gt y8 a1))) (by kernel_rfl) hb26 ?_
      refine cQ ?_
      refine cR [0] (by kernel_rfl) ?_
      refine oP (r := []) [0] (S' := [(4, .bool false)]) (by kernel_rfl) ?_
      refine oD ?_
      refine qT ?_
      refine CodT.ret ?_
      refine Qn.ret_then ?_
      have hI := hI.drop
      have e := someS h0
      subst e
      refine qK [4] (S' := [(4, .bool false)]) (by kernel_rfl) ?_
      exact post_ret (v := .bool false) (fun a ha => RunRes.run (vs := [.bool false]) (.tmp (t := 4) (by kernel_rfl) .nil) ha (by kernel_rfl)) ⟨rfl, hI⟩
     ·
      rw [if_neg hb26] at h0
      refine CodT.no' (b := !(eqA y24 (gt y8 a1))) (by kernel_rfl) (by simpa using hb26) ?_
      refine CodT.skip ?_
      refine qT ?_
      refine cQ ?_
      refine cQ ?_
      refine cR [0, 1] (by kernel_rfl) ?_
      refine oP (r := []) [0, 1] (S' := [(0, .slice A_a0 a0.length c_a0), (1, iv a1), (5, .bool y2), (7, .slice A9 y8.length cp10), (8, .string y12), (46, .bool (a1 == 0))]) (by kernel_rfl) ?_
      refine oD ?_
      refine qT ?_
      by_cases hb27 : (a1 == 0) = true
      ·
       rw [if_pos hb27] at h0
       refine CodT.yes' (b := a1 == 0) (by kernel_rfl) hb27 ?_
       obtain ⟨r1, h1, h0⟩ := bindS h0
       refine CodT.meet (fun a w => ∃ (x28 : Bool), x28 = r1 ∧ Fr 95 [(4, .bool x28)] a ∧ Inv w0 Z w A) ?_ ?_
       ·
        refine cR [0, 1, 2, 3, 4, 5] (by kernel_rfl) ?_
        refine oP (r := [2, 3, 4, 5]) [0, 1] (S' := [(8, .string y12), (48, .bool y2)]) (by kernel_rfl) ?_
        by_cases hb29 : y2 = true
        ·
         rw [if_pos hb29] at h1
         refine oK [8, 48] (S' := [(8, .string y12), (48, .bool true)]) (by simp only [hb29]; kernel_rfl) ?_
         refine oP (r := []) [2, 3, 4, 5] (S' := [(4, .bool (seq y12 (⟨#[99, 101, 110, 111, 116, 97, 112, 104]⟩ : ByteArray)))]) (by kernel_rfl) ?_
         refine oD ?_
         have hI := hI.drop
         have e := someS h1
         subst e
         exact Qn.thenJ fun a ha => ⟨seq y12 (⟨#[99, 101, 110, 111, 116, 97, 112, 104]⟩ : ByteArray), rfl, ha.keep [4] (by kernel_rfl), hI⟩
        ·
         rw [if_neg hb29] at h1
         have hb29 : y2 = false := by simpa using hb29
         refine oK [8, 48] (S' := [(8, .string y12), (48, .bool false)]) (by simp only [hb29]; kernel_rfl) ?_
         refine oP (r := []) [2, 3, 4, 5] (S' := [(4, .bool false)]) (by kernel_rfl) ?_
         refine oD ?_
         have hI := hI.drop
         have e := someS h1
         subst e
         exact Qn.thenJ fun a ha => ⟨false, rfl, ha.keep [4] (by kernel_rfl), hI⟩
       ·
        rintro a w ⟨x28, rfl, ha, hI⟩
        try dsimp only at h0
        refine CodT.of ?_ ha
        refine CodT.ret ?_
        refine Qn.ret_then ?_
        have e := someS h0
        subst e
        refine qK [4] (S' := [(4, .bool x28)]) (by kernel_rfl) ?_
        exact post_ret (v := .bool x28) (fun a ha => RunRes.run (vs := [.bool x28]) (.tmp (t := 4) (by kernel_rfl) .nil) ha (by kernel_rfl)) ⟨rfl, hI⟩
      ·
       rw [if_neg hb27] at h0
       refine CodT.no' (b := a1 == 0) (by kernel_rfl) (by simpa using hb27) ?_
       refine CodT.skip ?_
       refine qT ?_
       refine cQ ?_
       refine cR [0, 1, 2, 3, 4, 5, 6, 7, 8, 9, 10, 11, 12, 13] (by kernel_rfl) ?_
       refine oP (r := [4, 5, 6, 7, 8, 9, 10, 11, 12, 13]) [0, 1, 2, 3] (S' := [(0, .slice A_a0 a0.length c_a0), (1, iv a1), (5, .bool y2), (7, .slice A9 y8.length cp10), (8, .string y12), (53, .string y12), (56, iv (if (y12.size : Int) < 32 then (y12.size : Int) else 32))]) (by kernel_rfl) ?_
       obtain ⟨hg30, h0⟩ := guardS h0
       refine oC (Does.yi (Yl.sliceStr10 (d := 57) (T := 9) (s := y12) (lo := if (y12.size : Int) < 32 then (y12.size : Int) else 32) (by kernel_rfl) Go.Proofs.Try.underlying9 hg30) hI ?_)
       obtain ⟨⟨y32, y34, y35⟩, hc31, h0⟩ := bindS h0
       try dsimp only at h0
       refine oC (Does.call (d := some 58) (n := 19) (vs := [.string (sx y12 (if (y12.size : Int) < 32 then (y12.size : Int) else 32) (y12.size : Int))]) (by kernel_rfl) en19 (c19 w0 w _ _ hI (sx y12 (if (y12.size : Int) < 32 then (y12.size : Int) else 32) (y12.size : Int)) _ hc31) ?_)
       rintro e w ⟨rfl, hl33, hI⟩
       refine ⟨_, rfl, ?_⟩
       refine oP (r := [10, 11, 12, 13]) [6, 7, 8, 9] (S' := [(0, .slice A_a0 a0.length c_a0), (1, iv a1), (5, .bool y2), (7, .slice A9 y8.length cp10), (8, .string y12), (59, .agg (c_ApiEvent y32).toArray), (60, .string y34), (61, .bool y35)]) (by kernel_rfl) ?_
       refine oC (Does.allocL (d := 9) (T := 42) (c_ApiEvent (ApiEvent.mk 0 0 (⟨#[]⟩ : ByteArray) 0 0 (List.replicate 32 (0 : Int)))) (by kernel_rfl) ty42 hI (by kernel_rfl) ?_)
       intro b36 w hI
       refine oC (dS (T := 42) (b := b36) (o := 0) (v := .agg (c_ApiEvent y32).toArray) (l := c_ApiEvent (ApiEvent.mk 0 0 (⟨#[]⟩ : ByteArray) 0 0 (List.replicate 32 (0 : Int)))) (vs := c_ApiEvent y32) (L' := c_ApiEvent y32) (by kernel_rfl) ty42 hI (by kernel_rfl) (len_ApiEvent _ hl33) (by rw [(len_ApiEvent _ (by kernel_rfl))]; kernel_rfl) (ones_app _ _ (by kernel_rfl) (ones_cA _)) (lset_all _ _ (Eq.trans (len_ApiEvent _ hl33) (Eq.symm (len_ApiEvent _ (by kernel_rfl))))) ?_)
       intro w hI
       refine oP (r := []) [12, 13] (S' := [(0, .slice A_a0 a0.length c_a0), (1, iv a1), (5, .bool y2), (7, .slice A9 y8.length cp10), (8, .string y12), (9, pb b36), (10, .string y34), (11, .bool y35)]) (by kernel_rfl) ?_
       refine oD ?_
       refine qT ?_
       obtain ⟨r1, h1, h0⟩ := bindS h0
       refine CodT.meet (fun a w => ∃ (x39 : Bool) (Z37 : Hp), x39 = r1 ∧ Fr 95 [(4, .bool x39)] a ∧ Inv w0 Z37 w A ∧ Z.le Z37) ?_ ?_
       ·
        have hI := hI.mono (pick2 _ _ _)
        obtain ⟨Z40, hle41, hr42, hI⟩ := ownS_freeze hI
        refine CodT.drawI (n := 34) [] (by kernel_rfl) (by kernel_rfl) hI ?_
        intro w hI
        refine GmT.p' 0 62 (.bool y2) (by kernel_rfl) (by kernel_rfl) ?_
        refine GmT.p' 1 63 (.bool y2) (by kernel_rfl) (by kernel_rfl) ?_
        by_cases hb43 : y2 = true
        ·
         rw [if_pos hb43] at h1
         refine GmT.keep [0, 1, 7, 8, 9, 10, 11, 63] (S' := [(0, .slice A_a0 a0.length c_a0), (1, iv a1), (7, .slice A9 y8.length cp10), (8, .string y12), (9, pb b36), (10, .string y34), (11, .bool y35), (63, .bool true)]) (by simp only [hb43]; kernel_rfl) ?_
         refine GmT.p' 2 64 (.string y12) (by kernel_rfl) (by kernel_rfl) ?_
         refine GmT.p' 3 65 (iv (y12.size : Int)) (by kernel_rfl) (by kernel_rfl) ?_
         refine GmT.p' 4 66 (.bool (decide ((y12.size : Int) > 32))) (by kernel_rfl) (by kernel_rfl) ?_
         refine GmT.p' 5 67 (.bool (decide ((y12.size : Int) > 32))) (by kernel_rfl) (by kernel_rfl) ?_
         refine GmT.p' 6 68 (.bool (decide ((y12.size : Int) > 32))) (by kernel_rfl) (by kernel_rfl) ?_
         by_cases hb44 : (decide ((y12.size : Int) > 32)) = true
         ·
          rw [if_pos hb44] at h1
          refine GmT.keep [0, 1, 7, 8, 9, 10, 11, 68] (S' := [(0, .slice A_a0 a0.length c_a0), (1, iv a1), (7, .slice A9 y8.length cp10), (8, .string y12), (9, pb b36), (10, .string y34), (11, .bool y35), (68, .bool true)]) (by simp only [hb44]; kernel_rfl) ?_
          refine GmT.p' 7 69 (.string y12) (by kernel_rfl) (by kernel_rfl) ?_
          refine GmT.p' 9 71 (.slice A9 y8.length cp10) (by kernel_rfl) (by kernel_rfl) ?_
          refine GmT.p' 10 72 (iv a1) (by kernel_rfl) (by kernel_rfl) ?_
          refine GmT.p' 11 73 (iv (wi64 (a1 - 1))) (by kernel_rfl) (by kernel_rfl) ?_
          obtain ⟨hg45, h1⟩ := guardS h1
          refine GmT.r (i := 8) 2 (by kernel_rfl) (by kernel_rfl) (Yl.sliceStr01 (d := 70) (T := 9) (s := y12) (hi := 32) (by kernel_rfl) Go.Proofs.Try.underlying9 hg45) hI ?_
          obtain ⟨hg46, h1⟩ := guardS h1
          obtain ⟨g47, o51, hA48, hr49, hl50⟩ := RdS.get hr42 hg46.1 hg46.2
          refine GmT.r (i := 12) 2 (by kernel_rfl) (by kernel_rfl) (Yl.indexSlice (d := 74) (T := 32) (cc := cp10) (k := .i64) (j := wi64 (a1 - 1)) (g := g47) (o := o51) (by kernel_rfl) Go.Proofs.Try.underlying32 ty29 hA48 hg46.1 hg46.2) hI ?_
          have hr52 := RdS.arr hr42 hA48 hg46.1 hg46.2 ((cA_length _ _).symm.trans hl50) (by decide)
          refine GmT.r (i := 13) 2 (by kernel_rfl) (by kernel_rfl) (Yl.pur' (d := 75) (v' := .slice (some ⟨g47, o51 + (wi64 (a1 - 1)).toNat * 32, none⟩) 32 32) (v := .slice (some ⟨g47, o51 + (wi64 (a1 - 1)).toNat * 32, none⟩) ((gt y8 (wi64 (a1 - 1))).length) 32) (by kernel_rfl) (by rw [(((cA_length _ _).symm.trans hl50) : (gt y8 (wi64 (a1 - 1))).length = 32)])) hI ?_
          refine GmT.r (i := 14) 2 (by kernel_rfl) (by kernel_rfl) (Yl.b2sR (d := 76) (src := 45) (dst := 9) (xs := gt y8 (wi64 (a1 - 1))) (by kernel_rfl) Go.Proofs.Try.underlying45 Go.Proofs.Try.underlying5 Go.Proofs.Try.underlying9 hr52) hI ?_
          refine GmT.p' 15 77 (.bool (seq (sx y12 0 32) (strOfNums (gt y8 (wi64 (a1 - 1)))))) (by kernel_rfl) (by kernel_rfl) ?_
          refine GmT.p' 16 78 (.bool (seq (sx y12 0 32) (strOfNums (gt y8 (wi64 (a1 - 1)))))) (by kernel_rfl) (by kernel_rfl) ?_
          refine GmT.p' 17 79 (.bool (seq (sx y12 0 32) (strOfNums (gt y8 (wi64 (a1 - 1)))))) (by kernel_rfl) (by kernel_rfl) ?_
          by_cases hb53 : (seq (sx y12 0 32) (strOfNums (gt y8 (wi64 (a1 - 1))))) = true
          ·
           rw [if_pos hb53] at h1
           refine GmT.keep [0, 1, 9, 10, 11, 79] (S' := [(0, .slice A_a0 a0.length c_a0), (1, iv a1), (9, pb b36), (10, .string y34), (11, .bool y35), (79, .bool true)]) (by simp only [hb53]; kernel_rfl) ?_
           refine GmT.p' 18 80 (.bool y35) (by kernel_rfl) (by kernel_rfl) ?_
           refine GmT.p' 19 81 (.bool y35) (by kernel_rfl) (by kernel_rfl) ?_
           refine GmT.p' 20 82 (.bool y35) (by kernel_rfl) (by kernel_rfl) ?_
           by_cases hb54 : y35 = true
           ·
            rw [if_pos hb54] at h1
            refine GmT.keep [0, 1, 9, 10, 82] (S' := [(0, .slice A_a0 a0.length c_a0), (1, iv a1), (9, pb b36), (10, .string y34), (82, .bool true)]) (by simp only [hb54]; kernel_rfl) ?_
            refine GmT.p' 22 84 (.slice A_a0 a0.length c_a0) (by kernel_rfl) (by kernel_rfl) ?_
            refine GmT.p' 23 85 (iv a1) (by kernel_rfl) (by kernel_rfl) ?_
            refine GmT.p' 24 86 (iv (wi64 (a1 - 1))) (by kernel_rfl) (by kernel_rfl) ?_
            refine GmT.r (i := 21) 2 (by kernel_rfl) (by kernel_rfl) (Yl.load (d := 83) (T := 42) (v := .agg (c_ApiEvent y32).toArray) (by kernel_rfl) (ldBN ty42 (l := c_ApiEvent y32) (o := 0) (cs := c_ApiEvent y32) (ent_refl _) (len_ApiEvent _ hl33) (whole _ _ (len_ApiEvent _ hl33)))) hI ?_
            obtain ⟨hg55, h1⟩ := guardS h1
            obtain ⟨g56, o60, hA57, hr58, hl59⟩ := RdS.get (hr_a0.mono hle41) hg55.1 hg55.2
            refine GmT.r (i := 25) 2 (by kernel_rfl) (by kernel_rfl) (Yl.indexSlice (d := 87) (T := 22) (cc := c_a0) (k := .i64) (j := wi64 (a1 - 1)) (g := g56) (o := o60) (by kernel_rfl) Go.Proofs.Try.underlying22 ty42 hA57 hg55.1 hg55.2) hI ?_
            refine GmT.r (i := 26) 2 (by kernel_rfl) (by kernel_rfl) (Yl.load (d := 88) (T := 42) (v := .agg (c_ApiEvent (gt a0 (wi64 (a1 - 1)))).toArray) (by kernel_rfl) (ldRN ty42 (cs := c_ApiEvent (gt a0 (wi64 (a1 - 1)))) 0 (fun w hC => hr58 w0 w _ hC) hl59 (whole _ _ hl59))) hI ?_
            refine GmT.r (i := 27) 2 (by kernel_rfl) (by kernel_rfl) (Yl.eqlS (d := 89) (T := 42) (xs := ([iv y32.Kind, iv y32.ID, .string y32.Name, iv y32.Time, iv y32.Len] : LV) ++ (cA (Value.int .u8) y32.Sum)) (ys := ([iv ((gt a0 (wi64 (a1 - 1))).Kind), iv ((gt a0 (wi64 (a1 - 1))).ID), .string ((gt a0 (wi64 (a1 - 1))).Name), iv ((gt a0 (wi64 (a1 - 1))).Time), iv ((gt a0 (wi64 (a1 - 1))).Len)] : LV) ++ (cA (Value.int .u8) ((gt a0 (wi64 (a1 - 1))).Sum))) (r := eq_ApiEvent y32 (gt a0 (wi64 (a1 - 1)))) (by kernel_rfl) Go.Proofs.Try.underlying42 (by kernel_rfl) (by kernel_rfl) (.cons rfl (part1 (v := iv y32.Kind) ty40 (by kernel_rfl)) (part1 (v := iv ((gt a0 (wi64 (a1 - 1))).Kind)) ty40 (by kernel_rfl)) (eqI Go.Proofs.Try.underlying40) (.cons rfl (part1 (v := iv y32.ID) ty3 (by kernel_rfl)) (part1 (v := iv ((gt a0 (wi64 (a1 - 1))).ID)) ty3 (by kernel_rfl)) (eqI Go.Proofs.Try.underlying3) (.cons rfl (part1 (v := .string y32.Name) ty9 (by kernel_rfl)) (part1 (v := .string ((gt a0 (wi64 (a1 - 1))).Name)) ty9 (by kernel_rfl)) (eqS Go.Proofs.Try.underlying9) (.cons rfl (part1 (v := iv y32.Time) ty3 (by kernel_rfl)) (part1 (v := iv ((gt a0 (wi64 (a1 - 1))).Time)) ty3 (by kernel_rfl)) (eqI Go.Proofs.Try.underlying3) (.cons rfl (part1 (v := iv y32.Len) ty3 (by kernel_rfl)) (part1 (v := iv ((gt a0 (wi64 (a1 - 1))).Len)) ty3 (by kernel_rfl)) (eqI Go.Proofs.Try.underlying3) (.cons rfl (partN ty29 (tail_take _ _ _ _ _ (by kernel_rfl) hl33)) (partN ty29 (tail_take _ _ _ _ _ (by kernel_rfl) (inv_ApiEvent _ hl59))) (eqAr Go.Proofs.Try.underlying29 Go.Proofs.Try.underlying5 ty5 hl33 (inv_ApiEvent _ hl59)) .nil))))))) hI ?_
            refine GmT.p' 28 90 (.bool (eq_ApiEvent y32 (gt a0 (wi64 (a1 - 1))))) (by kernel_rfl) (by kernel_rfl) ?_
            refine GmT.p' 29 91 (.bool (eq_ApiEvent y32 (gt a0 (wi64 (a1 - 1))))) (by kernel_rfl) (by kernel_rfl) ?_
            by_cases hb61 : (eq_ApiEvent y32 (gt a0 (wi64 (a1 - 1)))) = true
            ·
             rw [if_pos hb61] at h1
             refine GmT.keep [10, 91] (S' := [(10, .string y34), (91, .bool true)]) (by simp only [hb61]; kernel_rfl) ?_
             refine GmT.p' 30 92 (.string y34) (by kernel_rfl) (by kernel_rfl) ?_
             refine GmT.p' 31 93 (.bool (seq y34 (⟨#[]⟩ : ByteArray))) (by kernel_rfl) (by kernel_rfl) ?_
             refine GmT.p' 32 94 (.bool (seq y34 (⟨#[]⟩ : ByteArray))) (by kernel_rfl) (by kernel_rfl) ?_
             refine GmT.p' 33 4 (.bool (seq y34 (⟨#[]⟩ : ByteArray))) (by kernel_rfl) (by kernel_rfl) ?_
             refine GmT.done (by kernel_rfl) ?_
             have hI := hI.drop
             have e := someS h1
             subst e
             exact Qn.thenJ fun a ha => ⟨seq y34 (⟨#[]⟩ : ByteArray), Z40, rfl, ha.keep [4] (by kernel_rfl), hI, hle41⟩
            ·
             rw [if_neg hb61] at h1
             have hb61 : (eq_ApiEvent y32 (gt a0 (wi64 (a1 - 1)))) = false := by simpa using hb61
             refine GmT.keep [10, 91] (S' := [(10, .string y34), (91, .bool false)]) (by simp only [hb61]; kernel_rfl) ?_
             refine GmT.p' 30 92 (undef) (by kernel_rfl) (by kernel_rfl) ?_
             refine GmT.p' 31 93 (undef) (by kernel_rfl) (by kernel_rfl) ?_
             refine GmT.p' 32 94 (.bool false) (by kernel_rfl) (by kernel_rfl) ?_
             refine GmT.p' 33 4 (.bool false) (by kernel_rfl) (by kernel_rfl) ?_
             refine GmT.done (by kernel_rfl) ?_
             have hI := hI.drop
             have e := someS h1
             subst e
             exact Qn.thenJ fun a ha => ⟨false, Z40, rfl, ha.keep [4] (by kernel_rfl), hI, hle41⟩
           ·
            rw [if_neg hb54] at h1
            have hb54 : y35 = false := by simpa using hb54
            refine GmT.keep [0, 1, 9, 10, 82] (S' := [(0, .slice A_a0 a0.length c_a0), (1, iv a1), (9, pb b36), (10, .string y34), (82, .bool false)]) (by simp only [hb54]; kernel_rfl) ?_
            refine GmT.p' 21 83 (undef) (by kernel_rfl) (by kernel_rfl) ?_
            refine GmT.p' 22 84 (undef) (by kernel_rfl) (by kernel_rfl) ?_
            refine GmT.p' 23 85 (undef) (by kernel_rfl) (by kernel_rfl) ?_
            refine GmT.p' 24 86 (undef) (by kernel_rfl) (by kernel_rfl) ?_
            refine GmT.p' 25 87 (undef) (by kernel_rfl) (by kernel_rfl) ?_
            refine GmT.p' 26 88 (undef) (by kernel_rfl) (by kernel_rfl) ?_
            refine GmT.p' 27 89 (undef) (by kernel_rfl) (by kernel_rfl) ?_
            refine GmT.p' 28 90 (.bool false) (by kernel_rfl) (by kernel_rfl) ?_
            refine GmT.p' 29 91 (.bool false) (by kernel_rfl) (by kernel_rfl) ?_
            refine GmT.p' 30 92 (undef) (by kernel_rfl) (by kernel_rfl) ?_
            refine GmT.p' 31 93 (undef) (by kernel_rfl) (by kernel_rfl) ?_
            refine GmT.p' 32 94 (.bool false) (by kernel_rfl) (by kernel_rfl) ?_
            refine GmT.p' 33 4 (.bool false) (by kernel_rfl) (by kernel_rfl) ?_
            refine GmT.done (by kernel_rfl) ?_
            have hI := hI.drop
            have e := someS h1
            subst e
            exact Qn.thenJ fun a ha => ⟨false, Z40, rfl, ha.keep [4] (by kernel_rfl), hI, hle41⟩
          ·
           rw [if_neg hb53] at h1
           have hb53 : (seq (sx y12 0 32) (strOfNums (gt y8 (wi64 (a1 - 1))))) = false := by simpa using hb53
           refine GmT.keep [0, 1, 9, 10, 11, 79] (S' := [(0, .slice A_a0 a0.length c_a0), (1, iv a1), (9, pb b36), (10, .string y34), (11, .bool y35), (79, .bool false)]) (by simp only [hb53]; kernel_rfl) ?_
           refine GmT.p' 18 80 (undef) (by kernel_rfl) (by kernel_rfl) ?_
           refine GmT.p' 19 81 (.bool false) (by kernel_rfl) (by kernel_rfl) ?_
           refine GmT.p' 20 82 (.bool false) (by kernel_rfl) (by kernel_rfl) ?_
           refine GmT.p' 21 83 (undef) (by kernel_rfl) (by kernel_rfl) ?_
           refine GmT.p' 22 84 (undef) (by kernel_rfl) (by kernel_rfl) ?_
           refine GmT.p' 23 85 (undef) (by kernel_rfl) (by kernel_rfl) ?_
           refine GmT.p' 24 86 (undef) (by kernel_rfl) (by kernel_rfl) ?_
           refine GmT.p' 25 87 (undef) (by kernel_rfl) (by kernel_rfl) ?_
           refine GmT.p' 26 88 (undef) (by kernel_rfl) (by kernel_rfl) ?_
           refine GmT.p' 27 89 (undef) (by kernel_rfl) (by kernel_rfl) ?_
           refine GmT.p' 28 90 (.bool false) (by kernel_rfl) (by kernel_rfl) ?_
           refine GmT.p' 29 91 (.bool false) (by kernel_rfl) (by kernel_rfl) ?_
           refine GmT.p' 30 92 (undef) (by kernel_rfl) (by kernel_rfl) ?_
           refine GmT.p' 31 93 (undef) (by kernel_rfl) (by kernel_rfl) ?_
           refine GmT.p' 32 94 (.bool false) (by kernel_rfl) (by kernel_rfl) ?_
           refine GmT.p' 33 4 (.bool false) (by kernel_rfl) (by kernel_rfl) ?_
           refine GmT.done (by kernel_rfl) ?_
           have hI := hI.drop
           have e := someS h1
           subst e
           exact Qn.thenJ fun a ha => ⟨false, Z40, rfl, ha.keep [4] (by kernel_rfl), hI, hle41⟩
         ·
          rw [if_neg hb44] at h1
          have hb44 : (decide ((y12.size : Int) > 32)) = false := by simpa using hb44
          refine GmT.keep [0, 1, 7, 8, 9, 10, 11, 68] (S' := [(0, .slice A_a0 a0.length c_a0), (1, iv a1), (7, .slice A9 y8.length cp10), (8, .string y12), (9, pb b36), (10, .string y34), (11, .bool y35), (68, .bool false)]) (by simp only [hb44]; kernel_rfl) ?_
          refine GmT.p' 7 69 (undef) (by kernel_rfl) (by kernel_rfl) ?_
          refine GmT.p' 8 70 (undef) (by kernel_rfl) (by kernel_rfl) ?_
          refine GmT.p' 9 71 (undef) (by kernel_rfl) (by kernel_rfl) ?_
          refine GmT.p' 10 72 (undef) (by kernel_rfl) (by kernel_rfl) ?_
          refine GmT.p' 11 73 (undef) (by kernel_rfl) (by kernel_rfl) ?_
          refine GmT.p' 12 74 (undef) (by kernel_rfl) (by kernel_rfl) ?_
          refine GmT.p' 13 75 (undef) (by kernel_rfl) (by kernel_rfl) ?_
          refine GmT.p' 14 76 (undef) (by kernel_rfl) (by kernel_rfl) ?_
          refine GmT.p' 15 77 (undef) (by kernel_rfl) (by kernel_rfl) ?_
          refine GmT.p' 16 78 (.bool false) (by kernel_rfl) (by kernel_rfl) ?_
          refine GmT.p' 17 79 (.bool false) (by kernel_rfl) (by kernel_rfl) ?_
          refine GmT.p' 18 80 (undef) (by kernel_rfl) (by kernel_rfl) ?_
          refine GmT.p' 19 81 (.bool false) (by kernel_rfl) (by kernel_rfl) ?_
          refine GmT.p' 20 82 (.bool false) (by kernel_rfl) (by kernel_rfl) ?_
          refine GmT.p' 21 83 (undef) (by kernel_rfl) (by kernel_rfl) ?_
          refine GmT.p' 22 84 (undef) (by kernel_rfl) (by kernel_rfl) ?_
          refine GmT.p' 23 85 (undef) (by kernel_rfl) (by kernel_rfl) ?_
          refine GmT.p' 24 86 (undef) (by kernel_rfl) (by kernel_rfl) ?_
          refine GmT.p' 25 87 (undef) (by kernel_rfl) (by kernel_rfl) ?_
          refine GmT.p' 26 88 (undef) (by kernel_rfl) (by kernel_rfl) ?_
          refine GmT.p' 27 89 (undef) (by kernel_rfl) (by kernel_rfl) ?_
          refine GmT.p' 28 90 (.bool false) (by kernel_rfl) (by kernel_rfl) ?_
          refine GmT.p' 29 91 (.bool false) (by kernel_rfl) (by kernel_rfl) ?_
          refine GmT.p' 30 92 (undef) (by kernel_rfl) (by kernel_rfl) ?_
          refine GmT.p' 31 93 (undef) (by kernel_rfl) (by kernel_rfl) ?_
          refine GmT.p' 32 94 (.bool false) (by kernel_rfl) (by kernel_rfl) ?_
          refine GmT.p' 33 4 (.bool false) (by kernel_rfl) (by kernel_rfl) ?_
          refine GmT.done (by kernel_rfl) ?_
          have hI := hI.drop
          have e := someS h1
          subst e
          exact Qn.thenJ fun a ha => ⟨false, Z40, rfl, ha.keep [4] (by kernel_rfl), hI, hle41⟩
        ·
         rw [if_neg hb43] at h1
         have hb43 : y2 = false := by simpa using hb43
         refine GmT.keep [0, 1, 7, 8, 9, 10, 11, 63] (S' := [(0, .slice A_a0 a0.length c_a0), (1, iv a1), (7, .slice A9 y8.length cp10), (8, .string y12), (9, pb b36), (10, .string y34), (11, .bool y35), (63, .bool false)]) (by simp only [hb43]; kernel_rfl) ?_
         refine GmT.p' 2 64 (undef) (by kernel_rfl) (by kernel_rfl) ?_
         refine GmT.p' 3 65 (undef) (by kernel_rfl) (by kernel_rfl) ?_
         refine GmT.p' 4 66 (undef) (by kernel_rfl) (by kernel_rfl) ?_
         refine GmT.p' 5 67 (.bool false) (by kernel_rfl) (by kernel_rfl) ?_
         refine GmT.p' 6 68 (.bool false) (by kernel_rfl) (by kernel_rfl) ?_
         refine GmT.p' 7 69 (undef) (by kernel_rfl) (by kernel_rfl) ?_
         refine GmT.p' 8 70 (undef) (by kernel_rfl) (by kernel_rfl) ?_
         refine GmT.p' 9 71 (undef) (by kernel_rfl) (by kernel_rfl) ?_
         refine GmT.p' 10 72 (undef) (by kernel_rfl) (by kernel_rfl) ?_
         refine GmT.p' 11 73 (undef) (by kernel_rfl) (by kernel_rfl) ?_
         refine GmT.p' 12 74 (undef) (by kernel_rfl) (by kernel_rfl) ?_
         refine GmT.p' 13 75 (undef) (by kernel_rfl) (by kernel_rfl) ?_
         refine GmT.p' 14 76 (undef) (by kernel_rfl) (by kernel_rfl) ?_
         refine GmT.p' 15 77 (undef) (by kernel_rfl) (by kernel_rfl) ?_
         refine GmT.p' 16 78 (.bool false) (by kernel_rfl) (by kernel_rfl) ?_
         refine GmT.p' 17 79 (.bool false) (by kernel_rfl) (by kernel_rfl) ?_
         refine GmT.p' 18 80 (undef) (by kernel_rfl) (by kernel_rfl) ?_
         refine GmT.p' 19 81 (.bool false) (by kernel_rfl) (by kernel_rfl) ?_
         refine GmT.p' 20 82 (.bool false) (by kernel_rfl) (by kernel_rfl) ?_
         refine GmT.p' 21 83 (undef) (by kernel_rfl) (by kernel_rfl) ?_
         refine GmT.p' 22 84 (undef) (by kernel_rfl) (by kernel_rfl) ?_
         refine GmT.p' 23 85 (undef) (by kernel_rfl) (by kernel_rfl) ?_
         refine GmT.p' 24 86 (undef) (by kernel_rfl) (by kernel_rfl) ?_
         refine GmT.p' 25 87 (undef) (by kernel_rfl) (by kernel_rfl) ?_
         refine GmT.p' 26 88 (undef) (by kernel_rfl) (by kernel_rfl) ?_
         refine GmT.p' 27 89 (undef) (by kernel_rfl) (by kernel_rfl) ?_
         refine GmT.p' 28 90 (.bool false) (by kernel_rfl) (by kernel_rfl) ?_
         refine GmT.p' 29 91 (.bool false) (by kernel_rfl) (by kernel_rfl) ?_
         refine GmT.p' 30 92 (undef) (by kernel_rfl) (by kernel_rfl) ?_
         refine GmT.p' 31 93 (undef) (by kernel_rfl) (by kernel_rfl) ?_
         refine GmT.p' 32 94 (.bool false) (by kernel_rfl) (by kernel_rfl) ?_
         refine GmT.p' 33 4 (.bool false) (by kernel_rfl) (by kernel_rfl) ?_
         refine GmT.done (by kernel_rfl) ?_
         have hI := hI.drop
         have e := someS h1
         subst e
         exact Qn.thenJ fun a ha => ⟨false, Z40, rfl, ha.keep [4] (by kernel_rfl), hI, hle41⟩
       ·
        rintro a w ⟨x39, Z37, rfl, ha, hI, hle38⟩
        try dsimp only at h0
        refine CodT.of ?_ ha
        refine CodT.ret ?_
        have e := someS h0
        subst e
        refine qK [4] (S' := [(4, .bool x39)]) (by kernel_rfl) ?_
        exact post_ret (v := .bool x39) (fun a ha => RunRes.run (vs := [.bool x39]) (.tmp (t := 4) (by kernel_rfl) .nil) ha (by kernel_rfl)) ⟨rfl, hI.weaken hle38⟩
end Go.Cen
