/- That the machine computes these: walks, printed by a program of ours. -/
import Derived.Test.YthdoklobbcedcacPx
import Derived.Test.YthdoklobbcedcacWx3
set_option linter.unusedVariables false
set_option linter.unusedSimpArgs false
namespace Go.Cen
set_option maxRecDepth 100000
set_option maxHeartbeats 4000000
/-- cenotaph/cenotaphref06.Collide -/
theorem c11 (w0 w : World) (Z : Hp) (A : HP) (hI : Inv w0 Z w A) (A_a0 : Option Addr) (c_a0 : Nat) (a0 : (List ApiEvent)) (hr_a0 : RdS Z c_ApiEvent 37 A_a0 c_a0 a0) (A_a1 : Option Addr) (c_a1 : Nat) (a1 : (List ApiEvent)) (hr_a1 : RdS Z c_ApiEvent 37 A_a1 c_a1 a1) (r : (ByteArray × ByteArray × Bool)) (h0 : ref06_Collide a0 a1 = some r) :
  Calls prog 11 #[.slice A_a0 a0.length c_a0, .slice A_a1 a1.length c_a1] w (fun e w' => e = .returned (.tuple #[.string r.1, .string r.2.1, .bool r.2.2]) ∧ Inv w0 Z w' A) := by
 have e4 := calls_intro (R := (fun e w' => e = .returned (.tuple #[.string r.1, .string r.2.1, .bool r.2.2]) ∧ Inv w0 Z w' A)) (w := w) (args := [.slice A_a0 a0.length c_a0, .slice A_a1 a1.length c_a1]) (fn := Go.Proofs.Try.f11) 65 Go.Proofs.Try.func11 (by rfl) Go.Proofs.Try.ntmps11 (by kernel_rfl)
 refine e4 ?_
 clear e4
 unfold ref06_Collide at h0
 refine cQ ?_
 refine cR [0, 1, 2] (by kernel_rfl) ?_
 refine oP (r := []) [0, 1, 2] (S' := [(0, .slice A_a0 a0.length c_a0), (1, .slice A_a1 a1.length c_a1)]) (by kernel_rfl) ?_
 refine oD ?_
 refine qT ?_
 refine cQ ?_
 refine cR [0, 1, 2] (by kernel_rfl) ?_
 refine oP (r := [1, 2]) [0] (S' := [(0, .slice A_a0 a0.length c_a0), (1, .slice A_a1 a1.length c_a1), (13, .slice A_a0 a0.length c_a0)]) (by kernel_rfl) ?_
 obtain ⟨y2, hc1, h0⟩ := bindS h0
 try dsimp only at h0
 refine oC (Does.call (d := some 14) (n := 23) (vs := [.slice A_a0 a0.length c_a0]) (by kernel_rfl) en23 (c23 w0 w _ _ hI A_a0 c_a0 a0 hr_a0 _ hc1) ?_)
 rintro e w ⟨A3, cp4, rfl, hI⟩
 refine ⟨_, rfl, ?_⟩
 refine oP (r := []) [2] (S' := [(0, .slice A_a0 a0.length c_a0), (1, .slice A_a1 a1.length c_a1), (7, .slice A3 y2.length cp4)]) (by kernel_rfl) ?_
 refine oD ?_
 refine qT ?_
 refine cQ ?_
 refine cR [0, 1, 2] (by kernel_rfl) ?_
 refine oP (r := [1, 2]) [0] (S' := [(0, .slice A_a0 a0.length c_a0), (1, .slice A_a1 a1.length c_a1), (7, .slice A3 y2.length cp4), (15, .slice A_a1 a1.length c_a1)]) (by kernel_rfl) ?_
 obtain ⟨y6, hc5, h0⟩ := bindS h0
 try dsimp only at h0
 refine oC (Does.call (d := some 16) (n := 23) (vs := [.slice A_a1 a1.length c_a1]) (by kernel_rfl) en23 (c23 w0 w _ _ hI A_a1 c_a1 a1 hr_a1 _ hc5) ?_)
 rintro e w ⟨A7, cp8, rfl, hI⟩
 refine ⟨_, rfl, ?_⟩
 refine oP (r := []) [2] (S' := [(0, .slice A_a0 a0.length c_a0), (1, .slice A_a1 a1.length c_a1), (7, .slice A3 y2.length cp4), (8, .slice A7 y6.length cp8)]) (by kernel_rfl) ?_
 refine oD ?_
 refine qT ?_
 refine cQ ?_
 obtain ⟨r1, h1, h0⟩ := bindS h0
 refine CodT.meet (fun a w => ∃ (x9 : Bool), x9 = r1 ∧ Fr 65 [(0, .slice A_a0 a0.length c_a0), (1, .slice A_a1 a1.length c_a1), (7, .slice A3 y2.length cp4), (8, .slice A7 y6.length cp8), (37, .bool x9)] a ∧ Inv w0 Z w (star (ownS 29 (cA (Value.int .u8)) 32 A7 cp8 y6) (star (ownS 29 (cA (Value.int .u8)) 32 A3 cp4 y2) A))) ?_ ?_
 ·
  refine CodT.drawI (n := 21) [] (by kernel_rfl) (by kernel_rfl) hI ?_
  intro w hI
  refine GmT.p' 0 17 (.slice A3 y2.length cp4) (by kernel_rfl) (by kernel_rfl) ?_
  refine GmT.p' 1 18 (iv (y2.length : Int)) (by kernel_rfl) (by kernel_rfl) ?_
  refine GmT.p' 2 19 (.bool ((y2.length : Int) == 0)) (by kernel_rfl) (by kernel_rfl) ?_
  refine GmT.p' 3 20 (.bool ((y2.length : Int) == 0)) (by kernel_rfl) (by kernel_rfl) ?_
  by_cases hb10 : ((y2.length : Int) == 0) = true
  ·
   rw [if_pos hb10] at h1
   refine GmT.keep [0, 1, 7, 8, 20] (S' := [(0, .slice A_a0 a0.length c_a0), (1, .slice A_a1 a1.length c_a1), (7, .slice A3 y2.length cp4), (8, .slice A7 y6.length cp8), (20, .bool true)]) (by simp only [hb10]; kernel_rfl) ?_
   refine GmT.p' 4 21 (undef) (by kernel_rfl) (by kernel_rfl) ?_
   refine GmT.p' 5 22 (undef) (by kernel_rfl) (by kernel_rfl) ?_
   refine GmT.p' 6 23 (undef) (by kernel_rfl) (by kernel_rfl) ?_
   refine GmT.p' 7 24 (.bool true) (by kernel_rfl) (by kernel_rfl) ?_
   refine GmT.p' 8 25 (.bool true) (by kernel_rfl) (by kernel_rfl) ?_
   refine GmT.p' 9 26 (undef) (by kernel_rfl) (by kernel_rfl) ?_
   refine GmT.p' 10 27 (undef) (by kernel_rfl) (by kernel_rfl) ?_
   refine GmT.p' 11 28 (undef) (by kernel_rfl) (by kernel_rfl) ?_
   refine GmT.p' 12 29 (undef) (by kernel_rfl) (by kernel_rfl) ?_
   refine GmT.p' 13 30 (undef) (by kernel_rfl) (by kernel_rfl) ?_
   refine GmT.p' 14 31 (undef) (by kernel_rfl) (by kernel_rfl) ?_
   refine GmT.p' 15 32 (undef) (by kernel_rfl) (by kernel_rfl) ?_
   refine GmT.p' 16 33 (undef) (by kernel_rfl) (by kernel_rfl) ?_
   refine GmT.p' 17 34 (undef) (by kernel_rfl) (by kernel_rfl) ?_
   refine GmT.p' 18 35 (undef) (by kernel_rfl) (by kernel_rfl) ?_
   refine GmT.p' 19 36 (undef) (by kernel_rfl) (by kernel_rfl) ?_
   refine GmT.p' 20 37 (.bool true) (by kernel_rfl) (by kernel_rfl) ?_
   refine GmT.done (by kernel_rfl) ?_
   have e := someS h1
   subst e
   exact Qn.thenJ fun a ha => ⟨true, rfl, ha.keep [0, 1, 7, 8, 37] (by kernel_rfl), hI⟩
  ·
   rw [if_neg hb10] at h1
   have hb10 : ((y2.length : Int) == 0) = false := by simpa using hb10
   refine GmT.keep [0, 1, 7, 8, 20] (S' := [(0, .slice A_a0 a0.length c_a0), (1, .slice A_a1 a1.length c_a1), (7, .slice A3 y2.length cp4), (8, .slice A7 y6.length cp8), (20, .bool false)]) (by simp only [hb10]; kernel_rfl) ?_
   refine GmT.p' 4 21 (.slice A7 y6.length cp8) (by kernel_rfl) (by kernel_rfl) ?_
   refine GmT.p' 5 22 (iv (y6.length : Int)) (by kernel_rfl) (by kernel_rfl) ?_
   refine GmT.p' 6 23 (.bool ((y6.length : Int) == 0)) (by kernel_rfl) (by kernel_rfl) ?_
   refine GmT.p' 7 24 (.bool ((y6.length : Int) == 0)) (by kernel_rfl) (by kernel_rfl) ?_
   refine GmT.p' 8 25 (.bool ((y6.length : Int) == 0)) (by kernel_rfl) (by kernel_rfl) ?_
   by_cases hb11 : ((y6.length : Int) == 0) = true
   ·
    rw [if_pos hb11] at h1
    refine GmT.keep [0, 1, 7, 8, 25] (S' := [(0, .slice A_a0 a0.length c_a0), (1, .slice A_a1 a1.length c_a1), (7, .slice A3 y2.length cp4), (8, .slice A7 y6.length cp8), (25, .bool true)]) (by simp only [hb11]; kernel_rfl) ?_
    refine GmT.p' 9 26 (undef) (by kernel_rfl) (by kernel_rfl) ?_
    refine GmT.p' 10 27 (undef) (by kernel_rfl) (by kernel_rfl) ?_
    refine GmT.p' 11 28 (undef) (by kernel_rfl) (by kernel_rfl) ?_
    refine GmT.p' 12 29 (undef) (by kernel_rfl) (by kernel_rfl) ?_
    refine GmT.p' 13 30 (undef) (by kernel_rfl) (by kernel_rfl) ?_
    refine GmT.p' 14 31 (undef) (by kernel_rfl) (by kernel_rfl) ?_
    refine GmT.p' 15 32 (undef) (by kernel_rfl) (by kernel_rfl) ?_
    refine GmT.p' 16 33 (undef) (by kernel_rfl) (by kernel_rfl) ?_
    refine GmT.p' 17 34 (undef) (by kernel_rfl) (by kernel_rfl) ?_
    refine GmT.p' 18 35 (undef) (by kernel_rfl) (by kernel_rfl) ?_
    refine GmT.p' 19 36 (undef) (by kernel_rfl) (by kernel_rfl) ?_
    refine GmT.p' 20 37 (.bool true) (by kernel_rfl) (by kernel_rfl) ?_
    refine GmT.done (by kernel_rfl) ?_
    have e := someS h1
    subst e
    exact Qn.thenJ fun a ha => ⟨true, rfl, ha.keep [0, 1, 7, 8, 37] (by kernel_rfl), hI⟩
   ·
    rw [if_neg hb11] at h1
    have hb11 : ((y6.length : Int) == 0) = false := by simpa using hb11
    refine GmT.keep [0, 1, 7, 8, 25] (S' := [(0, .slice A_a0 a0.length c_a0), (1, .slice A_a1 a1.length c_a1), (7, .slice A3 y2.length cp4), (8, .slice A7 y6.length cp8), (25, .bool false)]) (by simp only [hb11]; kernel_rfl) ?_
    refine GmT.p' 9 26 (.slice A3 y2.length cp4) (by kernel_rfl) (by kernel_rfl) ?_
    refine GmT.p' 10 27 (.slice A_a0 a0.length c_a0) (by kernel_rfl) (by kernel_rfl) ?_
    refine GmT.p' 11 28 (iv (a0.length : Int)) (by kernel_rfl) (by kernel_rfl) ?_
    refine GmT.p' 14 31 (.slice A7 y6.length cp8) (by kernel_rfl) (by kernel_rfl) ?_
    refine GmT.p' 15 32 (.slice A_a1 a1.length c_a1) (by kernel_rfl) (by kernel_rfl) ?_
    refine GmT.p' 16 33 (iv (a1.length : Int)) (by kernel_rfl) (by kernel_rfl) ?_
    obtain ⟨hg12, h1⟩ := guardS h1
    obtain ⟨g13, hA14, hr15, hl16⟩ := ownS_get (hI.mono (pick2 _ _ _)) hg12.1 hg12.2
    refine GmT.r (i := 12) 2 (by kernel_rfl) (by kernel_rfl) (Yl.indexSlice (d := 29) (T := 32) (cc := cp4) (k := .i64) (j := (a0.length : Int)) (g := g13) (o := 0) (by kernel_rfl) Go.Proofs.Try.underlying32 ty29 hA14 hg12.1 hg12.2) hI ?_
    refine GmT.r (i := 13) 2 (by kernel_rfl) (by kernel_rfl) (Yl.load (d := 30) (T := 29) (v := .agg (cA (Value.int .u8) (gt y2 (a0.length : Int))).toArray) (by kernel_rfl) (ldRN ty29 (cs := cA (Value.int .u8) (gt y2 (a0.length : Int))) 0 (fun w hC => hr15 w0 w _ (hC.mono (pick2 _ _ _))) ((cA_length _ _).trans ((cA_length _ _).symm.trans hl16)) (whole _ _ ((cA_length _ _).trans ((cA_length _ _).symm.trans hl16))))) hI ?_
    obtain ⟨hg17, h1⟩ := guardS h1
    obtain ⟨g18, hA19, hr20, hl21⟩ := ownS_get hI hg17.1 hg17.2
    refine GmT.r (i := 17) 2 (by kernel_rfl) (by kernel_rfl) (Yl.indexSlice (d := 34) (T := 32) (cc := cp8) (k := .i64) (j := (a1.length : Int)) (g := g18) (o := 0) (by kernel_rfl) Go.Proofs.Try.underlying32 ty29 hA19 hg17.1 hg17.2) hI ?_
    refine GmT.r (i := 18) 2 (by kernel_rfl) (by kernel_rfl) (Yl.load (d := 35) (T := 29) (v := .agg (cA (Value.int .u8) (gt y6 (a1.length : Int))).toArray) (by kernel_rfl) (ldRN ty29 (cs := cA (Value.int .u8) (gt y6 (a1.length : Int))) 0 (fun w hC => hr20 w0 w _ hC) ((cA_length _ _).trans ((cA_length _ _).symm.trans hl21)) (whole _ _ ((cA_length _ _).trans ((cA_length _ _).symm.trans hl21))))) hI ?_
    refine GmT.r (i := 19) 2 (by kernel_rfl) (by kernel_rfl) (Yl.neqA (k := .u8) (d := 36) (T := 29) (xs := gt y2 (a0.length : Int)) (ys := gt y6 (a1.length : Int)) (by kernel_rfl) Go.Proofs.Try.underlying29 (by kernel_rfl) Go.Proofs.Try.underlying5 ty5 ((cA_length _ _).symm.trans hl16) ((cA_length _ _).symm.trans hl21)) hI ?_
    refine GmT.p' 20 37 (.bool (!(eqA (gt y2 (a0.length : Int)) (gt y6 (a1.length : Int))))) (by kernel_rfl) (by kernel_rfl) ?_
    refine GmT.done (by kernel_rfl) ?_
    have e := someS h1
    subst e
    exact Qn.thenJ fun a ha => ⟨!(eqA (gt y2 (a0.length : Int)) (gt y6 (a1.length : Int))), rfl, ha.keep [0, 1, 7, 8, 37] (by kernel_rfl), hI⟩
 ·
  rintro a w ⟨x9, rfl, ha, hI⟩
  try dsimp only at h0
  refine CodT.of ?_ ha
  by_cases hb22 : x9 = true
  ·
   rw [if_pos hb22] at h0
   refine CodT.yes' (b := x9) (by kernel_rfl) hb22 ?_
   refine cQ ?_
   refine cR [0, 1, 2] (by kernel_rfl) ?_
   refine oP (r := []) [0, 1, 2] (S' := [(4, .string (⟨#[]⟩ : ByteArray)), (5, .string (⟨#[]⟩ : ByteArray)), (6, .bool false)]) (by kernel_rfl) ?_
   refine oD ?_
   refine qT ?_
   refine CodT.ret ?_
   refine Qn.ret_then ?_
   have hI := hI.drop
   have hI := hI.drop
   have e := someS h0
   subst e
   refine qK [4, 5, 6] (S' := [(4, .string (⟨#[]⟩ : ByteArray)), (5, .string (⟨#[]⟩ : ByteArray)), (6, .bool false)]) (by kernel_rfl) ?_
   exact post_ret (v := .tuple #[.string (⟨#[]⟩ : ByteArray), .string (⟨#[]⟩ : ByteArray), .bool false]) (fun a ha => RunRes.run (vs := [.string (⟨#[]⟩ : ByteArray), .string (⟨#[]⟩ : ByteArray), .bool false]) (.tmp (t := 4) (by kernel_rfl) (.tmp (t := 5) (by kernel_rfl) (.tmp (t := 6) (by kernel_rfl) .nil))) ha (by kernel_rfl)) ⟨rfl, hI⟩
  ·
   rw [if_neg hb22] at h0
   refine CodT.no' (b := x9) (by kernel_rfl) (by simpa using hb22) ?_
   refine CodT.skip ?_
   refine qT ?_
   refine cQ ?_
   refine cR [0, 1, 2] (by kernel_rfl) ?_
   refine oP (r := []) [0, 1, 2] (S' := [(0, .slice A_a0 a0.length c_a0), (1, .slice A_a1 a1.length c_a1), (7, .slice A3 y2.length cp4), (8, .slice A7 y6.length cp8), (9, iv (a0.length : Int))]) (by kernel_rfl) ?_
   refine oD ?_
   refine qT ?_
   refine cQ ?_
   refine cR [0, 1, 2] (by kernel_rfl) ?_
   refine oP (r := []) [0, 1, 2] (S' := [(0, .slice A_a0 a0.length c_a0), (1, .slice A_a1 a1.length c_a1), (7, .slice A3 y2.length cp4), (8, .slice A7 y6.length cp8), (9, iv (a0.length : Int)), (10, iv (a1.length : Int))]) (by kernel_rfl) ?_
   refine oD ?_
   refine qT ?_
   have hI := hI.mono (pick2 _ _ _)
   obtain ⟨Z23, hle24, hr25, hI⟩ := ownS_freeze hI
   obtain ⟨Z26, hle27, hr28, hI⟩ := ownS_freeze hI
   refine cQ ?_
   obtain ⟨r1, h1, h0⟩ := bindS h0
   refine CodT.meet1 (fun a w => .inr () = r1 ∧ Fr 65 [] a ∧ Inv w0 Z26 w A) ?_ ?_
   ·
    refine CodT.block ?_
    refine (fun a ha => wp_loopN (fun k a w => ∃ (x29 : Int) (x30 : Int), ref06_Collide.l0 y2 a0 y6 a1 k x29 x30 = some r1 ∧ Fr 65 [(0, .slice A_a0 a0.length c_a0), (1, .slice A_a1 a1.length c_a1), (7, .slice A3 y2.length cp4), (8, .slice A7 y6.length cp8), (9, iv x29), (10, iv x30)] a ∧ Inv w0 Z26 w A) ?_ FU a w ⟨(a0.length : Int), (a1.length : Int), h1, ha.keep [0, 1, 7, 8, 9, 10] (by kernel_rfl), hI⟩)
    clear h1 hI
    rintro k a w ⟨x29, x30, h1, ha, hI⟩
    rcases k with _ | k
    ·
     cases h1
    simp only [ref06_Collide.l0] at h1
    refine CodT.of ?_ ha
    refine cQ ?_
    obtain ⟨r2, h2, h1⟩ := bindS h1
    refine CodT.meet (fun a w => ∃ (x31 : Bool), x31 = r2 ∧ Fr 65 [(0, .slice A_a0 a0.length c_a0), (1, .slice A_a1 a1.length c_a1), (7, .slice A3 y2.length cp4), (8, .slice A7 y6.length cp8), (9, iv x29), (10, iv x30), (47, .bool x31)] a ∧ Inv w0 Z26 w A) ?_ ?_
    ·
     refine cR [0, 1, 2, 3, 4, 5] (by kernel_rfl) ?_
     refine oP (r := [3, 4, 5]) [0, 1, 2] (S' := [(0, .slice A_a0 a0.length c_a0), (1, .slice A_a1 a1.length c_a1), (7, .slice A3 y2.length cp4), (8, .slice A7 y6.length cp8), (9, iv x29), (10, iv x30), (44, .bool (decide (x29 ≥ 0)))]) (by kernel_rfl) ?_
     by_cases hb32 : (decide (x29 ≥ 0)) = true
     ·
      rw [if_pos hb32] at h2
      refine oK [0, 1, 7, 8, 9, 10, 44] (S' := [(0, .slice A_a0 a0.length c_a0), (1, .slice A_a1 a1.length c_a1), (7, .slice A3 y2.length cp4), (8, .slice A7 y6.length cp8), (9, iv x29), (10, iv x30), (44, .bool true)]) (by simp only [hb32]; kernel_rfl) ?_
      refine oP (r := []) [3, 4, 5] (S' := [(0, .slice A_a0 a0.length c_a0), (1, .slice A_a1 a1.length c_a1), (7, .slice A3 y2.length cp4), (8, .slice A7 y6.length cp8), (9, iv x29), (10, iv x30), (47, .bool (decide (x30 ≥ 0)))]) (by kernel_rfl) ?_
      refine oD ?_
      have e := someS h2
      subst e
      exact Qn.thenJ fun a ha => ⟨decide (x30 ≥ 0), rfl, ha.keep [0, 1, 7, 8, 9, 10, 47] (by kernel_rfl), hI⟩
     ·
      rw [if_neg hb32] at h2
      have hb32 : (decide (x29 ≥ 0)) = false := by simpa using hb32
      refine oK [0, 1, 7, 8, 9, 10, 44] (S' := [(0, .slice A_a0 a0.length c_a0), (1, .slice A_a1 a1.length c_a1), (7, .slice A3 y2.length cp4), (8, .slice A7 y6.length cp8), (9, iv x29), (10, iv x30), (44, .bool false)]) (by simp only [hb32]; kernel_rfl) ?_
      refine oP (r := []) [3, 4, 5] (S' := [(0, .slice A_a0 a0.length c_a0), (1, .slice A_a1 a1.length c_a1), (7, .slice A3 y2.length cp4), (8, .slice A7 y6.length cp8), (9, iv x29), (10, iv x30), (47, .bool false)]) (by kernel_rfl) ?_
      refine oD ?_
      have e := someS h2
      subst e
      exact Qn.thenJ fun a ha => ⟨false, rfl, ha.keep [0, 1, 7, 8, 9, 10, 47] (by kernel_rfl), hI⟩
    ·
     rintro a w ⟨x31, rfl, ha, hI⟩
     try dsimp only at h1
     refine CodT.of ?_ ha
     by_cases hb33 : x31 = true
     ·
      rw [if_pos hb33] at h1
      refine CodT.yes' (b := x31) (by kernel_rfl) hb33 ?_
      refine CodT.skip ?_
      refine qT ?_
      refine CodT.block ?_
      refine cQ ?_
      refine cR [0, 1, 2, 3, 4] (by kernel_rfl) ?_
      refine oP (r := [3, 4]) [0, 1, 2] (S' := [(0, .slice A_a0 a0.length c_a0), (1, .slice A_a1 a1.length c_a1), (7, .slice A3 y2.length cp4), (8, .slice A7 y6.length cp8), (9, iv x29), (10, iv x30), (48, .slice A3 y2.length cp4), (49, .slice A_a0 a0.length c_a0), (50, iv x29)]) (by kernel_rfl) ?_
      obtain ⟨y35, hc34, h1⟩ := bindS h1
      try dsimp only at h1
      refine oC (Does.call (d := some 51) (n := 24) (vs := [.slice A3 y2.length cp4, .slice A_a0 a0.length c_a0, iv x29]) (by kernel_rfl) en24 (c24 w0 w _ _ hI A3 cp4 y2 (hr25.mono hle27) A_a0 c_a0 a0 (hr_a0.mono (Hp.le_trans hle24 hle27)) x29 _ hc34) ?_)
      rintro e w ⟨rfl, hI⟩
      refine ⟨_, rfl, ?_⟩
      refine oP (r := []) [4] (S' := [(0, .slice A_a0 a0.length c_a0), (1, .slice A_a1 a1.length c_a1), (7, .slice A3 y2.length cp4), (8, .slice A7 y6.length cp8), (9, iv x29), (10, iv x30), (11, .string y35)]) (by kernel_rfl) ?_
      refine oD ?_
      refine qT ?_
      refine cQ ?_
      refine cR [0, 1, 2, 3, 4] (by kernel_rfl) ?_
      refine oP (r := [3, 4]) [0, 1, 2] (S' := [(0, .slice A_a0 a0.length c_a0), (1, .slice A_a1 a1.length c_a1), (7, .slice A3 y2.length cp4), (8, .slice A7 y6.length cp8), (9, iv x29), (10, iv x30), (11, .string y35), (52, .slice A7 y6.length cp8), (53, .slice A_a1 a1.length c_a1), (54, iv x30)]) (by kernel_rfl) ?_
      obtain ⟨y37, hc36, h1⟩ := bindS h1
      try dsimp only at h1
      refine oC (Does.call (d := some 55) (n := 24) (vs := [.slice A7 y6.length cp8, .slice A_a1 a1.length c_a1, iv x30]) (by kernel_rfl) en24 (c24 w0 w _ _ hI A7 cp8 y6 hr28 A_a1 c_a1 a1 (hr_a1.mono (Hp.le_trans hle24 hle27)) x30 _ hc36) ?_)
      rintro e w ⟨rfl, hI⟩
      refine ⟨_, rfl, ?_⟩
      refine oP (r := []) [4] (S' := [(0, .slice A_a0 a0.length c_a0), (1, .slice A_a1 a1.length c_a1), (7, .slice A3 y2.length cp4), (8, .slice A7 y6.length cp8), (9, iv x29), (10, iv x30), (11, .string y35), (12, .string y37)]) (by kernel_rfl) ?_
      refine oD ?_
      refine qT ?_
      refine cQ ?_
      refine cQ ?_
      refine cR [0, 1, 2] (by kernel_rfl) ?_
      refine oP (r := []) [0, 1, 2] (S' := [(0, .slice A_a0 a0.length c_a0), (1, .slice A_a1 a1.length c_a1), (7, .slice A3 y2.length cp4), (8, .slice A7 y6.length cp8), (9, iv x29), (10, iv x30), (11, .string y35), (12, .string y37), (58, .bool (!(seq y35 y37)))]) (by kernel_rfl) ?_
      refine oD ?_
      refine qT ?_
      by_cases hb38 : (!(seq y35 y37)) = true
      ·
       rw [if_pos hb38] at h1
       refine CodT.yes' (b := !(seq y35 y37)) (by kernel_rfl) hb38 ?_
       refine cQ ?_
       refine cR [0, 1, 2, 3, 4] (by kernel_rfl) ?_
       refine oP (r := []) [0, 1, 2, 3, 4] (S' := [(4, .string y35), (5, .string y37), (6, .bool true)]) (by kernel_rfl) ?_
       refine oD ?_
       refine qT ?_
       refine CodT.ret ?_
       refine Qn.ret_then ?_
       refine Qn.block_ret ?_
       refine Qn.ret_then ?_
       refine Qn.block_ret ?_
       refine Qn.ret_then ?_
       refine Qn.ret_then ?_
       have e := someS h1
       subst e
       try dsimp only at h0
       have e := someS h0
       subst e
       refine qK [4, 5, 6] (S' := [(4, .string y35), (5, .string y37), (6, .bool true)]) (by kernel_rfl) ?_
       exact post_ret (v := .tuple #[.string y35, .string y37, .bool true]) (fun a ha => RunRes.run (vs := [.string y35, .string y37, .bool true]) (.tmp (t := 4) (by kernel_rfl) (.tmp (t := 5) (by kernel_rfl) (.tmp (t := 6) (by kernel_rfl) .nil))) ha (by kernel_rfl)) ⟨rfl, hI.weaken (Hp.le_trans hle24 hle27)⟩
      ·
       rw [if_neg hb38] at h1
       refine CodT.no' (b := !(seq y35 y37)) (by kernel_rfl) (by simpa using hb38) ?_
       refine CodT.skip ?_
       refine qT ?_
       refine cQ ?_
       refine cR [0, 1, 2] (by kernel_rfl) ?_
       refine oP (r := []) [0, 1, 2] (S' := [(0, .slice A_a0 a0.length c_a0), (1, .slice A_a1 a1.length c_a1), (7, .slice A3 y2.length cp4), (8, .slice A7 y6.length cp8), (9, iv (wi64 (x29 - 1))), (10, iv x30)]) (by kernel_rfl) ?_
       refine oD ?_
       refine qT ?_
       refine cR [0, 1, 2] (by kernel_rfl) ?_
       refine oP (r := []) [0, 1, 2] (S' := [(0, .slice A_a0 a0.length c_a0), (1, .slice A_a1 a1.length c_a1), (7, .slice A3 y2.length cp4), (8, .slice A7 y6.length cp8), (9, iv (wi64 (x29 - 1))), (10, iv (wi64 (x30 - 1)))]) (by kernel_rfl) ?_
       refine oD ?_
       refine Qn.block_normal ?_
       exact Qn.thenJ fun a ha => ⟨k, Nat.lt_succ_self k, wi64 (x29 - 1), wi64 (x30 - 1), h1, ha.keep [0, 1, 7, 8, 9, 10] (by kernel_rfl), hI⟩
     ·
      rw [if_neg hb33] at h1
      refine CodT.no' (b := x31) (by kernel_rfl) (by simpa using hb33) ?_
      refine CodT.exit ?_
      refine Qn.exit_then ?_
      refine Qn.exit_then ?_
      refine Qn.block ?_
      have e := someS h1
      subst e
      exact Qn.thenJ fun a ha => ⟨rfl, ha.keep [] (by kernel_rfl), hI⟩
   ·
    rintro a w ⟨rfl, ha, hI⟩
    try dsimp only at h0
    refine Qn.of ?_ ha
    refine qT ?_
    refine cQ ?_
    refine cR [0, 1, 2] (by kernel_rfl) ?_
    refine oP (r := []) [0, 1, 2] (S' := [(4, .string (⟨#[]⟩ : ByteArray)), (5, .string (⟨#[]⟩ : ByteArray)), (6, .bool false)]) (by kernel_rfl) ?_
    refine oD ?_
    refine qT ?_
    refine CodT.ret ?_
    have e := someS h0
    subst e
    refine qK [4, 5, 6] (S' := [(4, .string (⟨#[]⟩ : ByteArray)), (5, .string (⟨#[]⟩ : ByteArray)), (6, .bool false)]) (by kernel_rfl) ?_
    exact post_ret (v := .tuple #[.string (⟨#[]⟩ : ByteArray), .string (⟨#[]⟩ : ByteArray), .bool false]) (fun a ha => RunRes.run (vs := [.string (⟨#[]⟩ : ByteArray), .string (⟨#[]⟩ : ByteArray), .bool false]) (.tmp (t := 4) (by kernel_rfl) (.tmp (t := 5) (by kernel_rfl) (.tmp (t := 6) (by kernel_rfl) .nil))) ha (by kernel_rfl)) ⟨rfl, hI.weaken (Hp.le_trans hle24 hle27)⟩
/-- cenotaph/cenotaphref05.Same -/
theorem c15 (w0 w : World) (Z : Hp) (A : HP) (hI : Inv w0 Z w A) (A_a0 : Option Addr) (c_a0 : Nat) (a0 : (List ApiEvent)) (hr_a0 : RdS Z c_ApiEvent 37 A_a0 c_a0 a0) (A_a1 : Option Addr) (c_a1 : Nat) (a1 : (List ApiEvent)) (hr_a1 : RdS Z c_ApiEvent 37 A_a1 c_a1 a1) (r : Bool) (h0 : ref05_Same a0 a1 = some r) :
  Calls prog 15 #[.slice A_a0 a0.length c_a0, .slice A_a1 a1.length c_a1] w (fun e w' => e = .returned (.bool r) ∧ Inv w0 Z w' A) := by
 have e4 := calls_intro (R := (fun e w' => e = .returned (.bool r) ∧ Inv w0 Z w' A)) (w := w) (args := [.slice A_a0 a0.length c_a0, .slice A_a1 a1.length c_a1]) (fn := Go.Proofs.Try.f15) 26 Go.Proofs.Try.func15 (by rfl) Go.Proofs.Try.ntmps15 (by kernel_rfl)
 refine e4 ?_
 clear e4
 unfold ref05_Same at h0
 refine cQ ?_
 refine cR [0] (by kernel_rfl) ?_
 refine oP (r := []) [0] (S' := [(0, .slice A_a0 a0.length c_a0), (1, .slice A_a1 a1.length c_a1)]) (by kernel_rfl) ?_
 refine oD ?_
 refine qT ?_
 refine cQ ?_
 refine cQ ?_
 refine cR [0, 1, 2, 3, 4] (by kernel_rfl) ?_
 refine oP (r := []) [0, 1, 2, 3, 4] (S' := [(0, .slice A_a0 a0.length c_a0), (1, .slice A_a1 a1.length c_a1), (10, .bool ((a0.length : Int) != (a1.length : Int)))]) (by kernel_rfl) ?_
 refine oD ?_
 refine qT ?_
 by_cases hb1 : ((a0.length : Int) != (a1.length : Int)) = true
 ·
  rw [if_pos hb1] at h0
  refine CodT.yes' (b := (a0.length : Int) != (a1.length : Int)) (by kernel_rfl) hb1 ?_
  refine cQ ?_
  refine cR [0] (by kernel_rfl) ?_
  refine oP (r := []) [0] (S' := [(4, .bool false)]) (by kernel_rfl) ?_
  refine oD ?_
  refine qT ?_
  refine CodT.ret ?_
  refine Qn.ret_then ?_
  have e := someS h0
  subst e
  refine qK [4] (S' := [(4, .bool false)]) (by kernel_rfl) ?_
  exact post_ret (v := .bool false) (fun a ha => RunRes.run (vs := [.bool false]) (.tmp (t := 4) (by kernel_rfl) .nil) ha (by kernel_rfl)) ⟨rfl, hI⟩
 ·
  rw [if_neg hb1] at h0
  refine CodT.no' (b := (a0.length : Int) != (a1.length : Int)) (by kernel_rfl) (by simpa using hb1) ?_
  refine CodT.skip ?_
  refine qT ?_
  refine cQ ?_
  refine cQ ?_
  refine cR [0] (by kernel_rfl) ?_
  refine oP (r := []) [0] (S' := [(0, .slice A_a0 a0.length c_a0), (1, .slice A_a1 a1.length c_a1), (5, iv 0)]) (by kernel_rfl) ?_
  refine oD ?_
  refine qT ?_
  obtain ⟨r1, h1, h0⟩ := bindS h0
  refine CodT.meet1 (fun a w => .inr () = r1 ∧ Fr 26 [] a ∧ Inv w0 Z w A) ?_ ?_
  ·
   refine CodT.block ?_
   refine (fun a ha => wp_loopN (fun k a w => ∃ (x2 : Int), ref05_Same.l0 a0 a1 k x2 = some r1 ∧ Fr 26 [(0, .slice A_a0 a0.length c_a0), (1, .slice A_a1 a1.length c_a1), (5, iv x2)] a ∧ Inv w0 Z w A) ?_ FU a w ⟨0, h1, ha.keep [0, 1, 5] (by kernel_rfl), hI⟩)
   clear h1 hI
   rintro k a w ⟨x2, h1, ha, hI⟩
   rcases k with _ | k
   ·
    cases h1
   simp only [ref05_Same.l0] at h1
   refine CodT.of ?_ ha
   refine cQ ?_
   refine cQ ?_
   refine cR [0, 1, 2, 3] (by kernel_rfl) ?_
   refine oP (r := []) [0, 1, 2, 3] (S' := [(0, .slice A_a0 a0.length c_a0), (1, .slice A_a1 a1.length c_a1), (5, iv x2), (14, .bool (decide (x2 < (a0.length : Int))))]) (by kernel_rfl) ?_
   refine oD ?_
   refine qT ?_
   by_cases hb3 : (decide (x2 < (a0.length : Int))) = true
   ·
    rw [if_pos hb3] at h1
    refine CodT.yes' (b := decide (x2 < (a0.length : Int))) (by kernel_rfl) hb3 ?_
    refine CodT.skip ?_
    refine qT ?_
    refine cQ ?_
    refine CodT.block ?_
    refine cQ ?_
    refine CodT.drawI (n := 9) [] (by kernel_rfl) (by kernel_rfl) hI ?_
    intro w hI
    refine GmT.p' 0 17 (.slice A_a0 a0.length c_a0) (by kernel_rfl) (by kernel_rfl) ?_
    refine GmT.p' 1 18 (iv x2) (by kernel_rfl) (by kernel_rfl) ?_
    refine GmT.p' 4 21 (.slice A_a1 a1.length c_a1) (by kernel_rfl) (by kernel_rfl) ?_
    refine GmT.p' 5 22 (iv x2) (by kernel_rfl) (by kernel_rfl) ?_
    obtain ⟨hg4, h1⟩ := guardS h1
    obtain ⟨g5, o9, hA6, hr7, hl8⟩ := RdS.get hr_a0 hg4.1 hg4.2
    refine GmT.r (i := 2) 2 (by kernel_rfl) (by kernel_rfl) (Yl.indexSlice (d := 19) (T := 22) (cc := c_a0) (k := .i64) (j := x2) (g := g5) (o := o9) (by kernel_rfl) Go.Proofs.Try.underlying22 ty42 hA6 hg4.1 hg4.2) hI ?_
    refine GmT.r (i := 3) 2 (by kernel_rfl) (by kernel_rfl) (Yl.load (d := 20) (T := 42) (v := .agg (c_ApiEvent (gt a0 x2)).toArray) (by kernel_rfl) (ldRN ty42 (cs := c_ApiEvent (gt a0 x2)) 0 (fun w hC => hr7 w0 w _ hC) hl8 (whole _ _ hl8))) hI ?_
    obtain ⟨hg10, h1⟩ := guardS h1
    obtain ⟨g11, o15, hA12, hr13, hl14⟩ := RdS.get hr_a1 hg10.1 hg10.2
    refine GmT.r (i := 6) 2 (by kernel_rfl) (by kernel_rfl) (Yl.indexSlice (d := 23) (T := 22) (cc := c_a1) (k := .i64) (j := x2) (g := g11) (o := o15) (by kernel_rfl) Go.Proofs.Try.underlying22 ty42 hA12 hg10.1 hg10.2) hI ?_
    refine GmT.r (i := 7) 2 (by kernel_rfl) (by kernel_rfl) (Yl.load (d := 24) (T := 42) (v := .agg (c_ApiEvent (gt a1 x2)).toArray) (by kernel_rfl) (ldRN ty42 (cs := c_ApiEvent (gt a1 x2)) 0 (fun w hC => hr13 w0 w _ hC) hl14 (whole _ _ hl14))) hI ?_
    refine GmT.r (i := 8) 2 (by kernel_rfl) (by kernel_rfl) (Yl.neqS (d := 25) (T := 42) (xs := ([iv ((gt a0 x2).Kind), iv ((gt a0 x2).ID), .string ((gt a0 x2).Name), iv ((gt a0 x2).Time), iv ((gt a0 x2).Len)] : LV) ++ (cA (Value.int .u8) ((gt a0 x2).Sum))) (ys := ([iv ((gt a1 x2).Kind), iv ((gt a1 x2).ID), .string ((gt a1 x2).Name), iv ((gt a1 x2).Time), iv ((gt a1 x2).Len)] : LV) ++ (cA (Value.int .u8) ((gt a1 x2).Sum))) (r := eq_ApiEvent (gt a0 x2) (gt a1 x2)) (by kernel_rfl) Go.Proofs.Try.underlying42 (by kernel_rfl) (by kernel_rfl) (.cons rfl (part1 (v := iv ((gt a0 x2).Kind)) ty40 (by kernel_rfl)) (part1 (v := iv ((gt a1 x2).Kind)) ty40 (by kernel_rfl)) (eqI Go.Proofs.Try.underlying40) (.cons rfl (part1 (v := iv ((gt a0 x2).ID)) ty3 (by kernel_rfl)) (part1 (v := iv ((gt a1 x2).ID)) ty3 (by kernel_rfl)) (eqI Go.Proofs.Try.underlying3) (.cons rfl (part1 (v := .string ((gt a0 x2).Name)) ty9 (by kernel_rfl)) (part1 (v := .string ((gt a1 x2).Name)) ty9 (by kernel_rfl)) (eqS Go.Proofs.Try.underlying9) (.cons rfl (part1 (v := iv ((gt a0 x2).Time)) ty3 (by kernel_rfl)) (part1 (v := iv ((gt a1 x2).Time)) ty3 (by kernel_rfl)) (eqI Go.Proofs.Try.underlying3) (.cons rfl (part1 (v := iv ((gt a0 x2).Len)) ty3 (by kernel_rfl)) (part1 (v := iv ((gt a1 x2).Len)) ty3 (by kernel_rfl)) (eqI Go.Proofs.Try.underlying3) (.cons rfl (partN ty29 (tail_take _ _ _ _ _ (by kernel_rfl) (inv_ApiEvent _ hl8))) (partN ty29 (tail_take _ _ _ _ _ (by kernel_rfl) (inv_ApiEvent _ hl14))) (eqAr Go.Proofs.Try.underlying29 Go.Proofs.Try.underlying5 ty5 (inv_ApiEvent _ hl8) (inv_ApiEvent _ hl14)) .nil))))))) hI ?_
    refine GmT.done (by kernel_rfl) ?_
    refine qT ?_
    by_cases hb16 : (!(eq_ApiEvent (gt a0 x2) (gt a1 x2))) = true
    ·
     rw [if_pos hb16] at h1
     refine CodT.yes' (b := !(eq_ApiEvent (gt a0 x2) (gt a1 x2))) (by kernel_rfl) hb16 ?_
     refine cQ ?_
     refine cR [0] (by kernel_rfl) ?_
     refine oP (r := []) [0] (S' := [(4, .bool false)]) (by kernel_rfl) ?_
     refine oD ?_
     refine qT ?_
     refine CodT.ret ?_
     refine Qn.block_ret ?_
     refine Qn.ret_then ?_
     refine Qn.ret_then ?_
     refine Qn.block_ret ?_
     refine Qn.ret_then ?_
     refine Qn.ret_then ?_
     have e := someS h1
     subst e
     try dsimp only at h0
     have e := someS h0
     subst e
     refine qK [4] (S' := [(4, .bool false)]) (by kernel_rfl) ?_
     exact post_ret (v := .bool false) (fun a ha => RunRes.run (vs := [.bool false]) (.tmp (t := 4) (by kernel_rfl) .nil) ha (by kernel_rfl)) ⟨rfl, hI⟩
    ·
     rw [if_neg hb16] at h1
     refine CodT.no' (b := !(eq_ApiEvent (gt a0 x2) (gt a1 x2))) (by kernel_rfl) (by simpa using hb16) ?_
     refine CodT.skip ?_
     refine Qn.block_normal ?_
     refine qT ?_
     refine cR [0, 1, 2] (by kernel_rfl) ?_
     refine oP (r := []) [0, 1, 2] (S' := [(0, .slice A_a0 a0.length c_a0), (1, .slice A_a1 a1.length c_a1), (5, iv (wi64 (x2 + 1)))]) (by kernel_rfl) ?_
     refine oD ?_
     exact Qn.thenJ fun a ha => ⟨k, Nat.lt_succ_self k, wi64 (x2 + 1), h1, ha.keep [0, 1, 5] (by kernel_rfl), hI⟩
   ·
    rw [if_neg hb3] at h1
    refine CodT.no' (b := decide (x2 < (a0.length : Int))) (by kernel_rfl) (by simpa using hb3) ?_
    refine CodT.exit ?_
    refine Qn.exit_then ?_
    refine Qn.exit_then ?_
    refine Qn.block ?_
    have e := someS h1
    subst e
    exact Qn.thenJ fun a ha => ⟨rfl, ha.keep [] (by kernel_rfl), hI⟩
  ·
   rintro a w ⟨rfl, ha, hI⟩
   try dsimp only at h0
   refine Qn.of ?_ ha
   refine qT ?_
   refine cQ ?_
   refine cR [0] (by kernel_rfl) ?_
   refine oP (r := []) [0] (S' := [(4, .bool true)]) (by kernel_rfl) ?_
   refine oD ?_
   refine qT ?_
   refine CodT.ret ?_
   have e := someS h0
   subst e
   refine qK [4] (S' := [(4, .bool true)]) (by kernel_rfl) ?_
   exact post_ret (v := .bool true) (fun a ha => RunRes.run (vs := [.bool true]) (.tmp (t := 4) (by kernel_rfl) .nil) ha (by kernel_rfl)) ⟨rfl, hI⟩
/-- cenotaph/wire.num -/
theorem c45 (w0 w : World) (Z : Hp) (A : HP) (hI : Inv w0 Z w A) (a0 : ByteArray) (r : WireGot_int) (h0 : wire_num a0 = some r) :
  Calls prog 45 #[.string a0] w (fun e w' => e = .returned (.agg (c_WireGot_int r).toArray) ∧ Inv w0 Z w' A) := by
 have e4 := calls_intro (R := (fun e w' => e = .returned (.agg (c_WireGot_int r).toArray) ∧ Inv w0 Z w' A)) (w := w) (args := [.string a0]) (fn := Go.Proofs.Try.f45) 45 Go.Proofs.Try.func45 (by rfl) Go.Proofs.Try.ntmps45 (by kernel_rfl)
 refine e4 ?_
 clear e4
 unfold wire_num at h0
 refine cQ ?_
 refine cR [0] (by kernel_rfl) ?_
 refine oC (Does.allocL (d := 2) (T := 86) (c_WireGot_int (WireGot_int.mk 0 (⟨#[]⟩ : ByteArray) false)) (by kernel_rfl) ty86 hI (by kernel_rfl) ?_)
 intro b1 w hI
 refine oD ?_
 refine qT ?_
 refine cQ ?_
 refine cR [0] (by kernel_rfl) ?_
 refine oP (r := []) [0] (S' := [(0, .string a0), (2, pb b1), (3, iv 0)]) (by kernel_rfl) ?_
 refine oD ?_
 refine qT ?_
 refine cQ ?_
 refine cQ ?_
 refine cR [0, 1, 2, 3] (by kernel_rfl) ?_
 refine oP (r := []) [0, 1, 2, 3] (S' := [(0, .string a0), (2, pb b1), (3, iv 0), (7, iv (if 8 < (a0.size : Int) then 8 else (a0.size : Int))), (8, iv 0)]) (by kernel_rfl) ?_
 refine oD ?_
 refine qT ?_
 obtain ⟨r1, h1, h0⟩ := bindS h0
 refine CodT.meet1 (fun a w => .inr () = r1 ∧ Fr 45 [(2, pb b1)] a ∧ Inv w0 Z w (star (pt b1 (.cells (c_WireGot_int (WireGot_int.mk 0 (⟨#[]⟩ : ByteArray) false)).toArray 86 (0, 0))) A)) ?_ ?_
 ·
  refine CodT.block ?_
  refine (fun a ha => wp_loopN (fun k a w => ∃ (x2 : Int) (x3 : Int), wire_num.l0 a0 k x2 x3 = some r1 ∧ Fr 45 [(0, .string a0), (2, pb b1), (3, iv x2), (7, iv (if 8 < (a0.size : Int) then 8 else (a0.size : Int))), (8, iv x3)] a ∧ Inv w0 Z w (star (pt b1 (.cells (c_WireGot_int (WireGot_int.mk 0 (⟨#[]⟩ : ByteArray) false)).toArray 86 (0, 0))) A)) ?_ FU a w ⟨0, 0, h1, ha.keep [0, 2, 3, 7, 8] (by kernel_rfl), hI⟩)
  clear h1 hI
  rintro k a w ⟨x2, x3, h1, ha, hI⟩
  rcases k with _ | k
  ·
   cases h1
  simp only [wire_num.l0] at h1
  refine CodT.of ?_ ha
  refine cQ ?_
  refine cR [0] (by kernel_rfl) ?_
  refine oP (r := []) [0] (S' := [(0, .string a0), (2, pb b1), (3, iv x2), (7, iv (if 8 < (a0.size : Int) then 8 else (a0.size : Int))), (8, iv x3), (9, .bool (decide (x3 < (if 8 < (a0.size : Int) then 8 else (a0.size : Int)))))]) (by kernel_rfl) ?_
  refine oD ?_
  refine qT ?_
  refine cQ ?_
  by_cases hb4 : (decide (x3 < (if 8 < (a0.size : Int) then 8 else (a0.size : Int)))) = true
  ·
   rw [if_pos hb4] at h1
   refine CodT.yes' (b := decide (x3 < (if 8 < (a0.size : Int) then 8 else (a0.size : Int)))) (by kernel_rfl) hb4 ?_
   refine CodT.skip ?_
   refine qT ?_
   refine cQ ?_
   refine CodT.block ?_
   refine cQ ?_
   refine cR [0, 1] (by kernel_rfl) ?_
   refine oP (r := []) [0, 1] (S' := [(0, .string a0), (2, pb b1), (3, iv x2), (4, iv x3), (7, iv (if 8 < (a0.size : Int) then 8 else (a0.size : Int))), (8, iv x3)]) (by kernel_rfl) ?_
   refine oD ?_
   refine qT ?_
   refine cQ ?_
   refine cR [0, 1, 2, 3, 4, 5, 6, 7, 8, 9, 10] (by kernel_rfl) ?_
   refine oP (r := [3, 4, 5, 6, 7, 8, 9, 10]) [0, 1, 2] (S' := [(0, .string a0), (2, pb b1), (4, iv x3), (7, iv (if 8 < (a0.size : Int) then 8 else (a0.size : Int))), (8, iv x3), (11, iv x2), (12, .string a0), (13, iv x3)]) (by kernel_rfl) ?_
   obtain ⟨hg5, h1⟩ := guardS h1
   refine oC (Does.yi (Yl.indexStr (d := 14) (T := 9) (k := .i64) (j := x3) (s := a0) (by kernel_rfl) Go.Proofs.Try.underlying9 hg5.1 hg5.2) hI ?_)
   refine oP (r := [8, 9, 10]) [4, 5, 6, 7] (S' := [(0, .string a0), (2, pb b1), (4, iv x3), (7, iv (if 8 < (a0.size : Int) then 8 else (a0.size : Int))), (8, iv x3), (11, iv x2), (16, iv (wi64 (bAnd .u8 (bt a0 x3) 127))), (18, iv (wi64 (7 * x3)))]) (by kernel_rfl) ?_
   obtain ⟨hg6, h1⟩ := guardS h1
   refine oC (Does.yi (Yl.shl (d := 19) (T := 3) (k := .i64) (k' := .i64) (x := wi64 (bAnd .u8 (bt a0 x3) 127)) (y := wi64 (7 * x3)) (by kernel_rfl) hg6) hI ?_)
   refine oP (r := []) [9, 10] (S' := [(0, .string a0), (2, pb b1), (3, iv (bOr .i64 x2 (bShl .i64 (wi64 (bAnd .u8 (bt a0 x3) 127)) (wi64 (7 * x3))))), (4, iv x3), (7, iv (if 8 < (a0.size : Int) then 8 else (a0.size : Int))), (8, iv x3)]) (by kernel_rfl) ?_
   refine oD ?_
   refine qT ?_
   refine cQ ?_
   refine cR [0, 1, 2, 3] (by kernel_rfl) ?_
   refine oP (r := [2, 3]) [0, 1] (S' := [(0, .string a0), (2, pb b1), (3, iv (bOr .i64 x2 (bShl .i64 (wi64 (bAnd .u8 (bt a0 x3) 127)) (wi64 (7 * x3))))), (4, iv x3), (7, iv (if 8 < (a0.size : Int) then 8 else (a0.size : Int))), (8, iv x3), (21, .string a0), (22, iv x3)]) (by kernel_rfl) ?_
   obtain ⟨hg7, h1⟩ := guardS h1
   refine oC (Does.yi (Yl.indexStr (d := 23) (T := 9) (k := .i64) (j := x3) (s := a0) (by kernel_rfl) Go.Proofs.Try.underlying9 hg7.1 hg7.2) hI ?_)
   refine oP (r := []) [3] (S' := [(0, .string a0), (2, pb b1), (3, iv (bOr .i64 x2 (bShl .i64 (wi64 (bAnd .u8 (bt a0 x3) 127)) (wi64 (7 * x3))))), (4, iv x3), (7, iv (if 8 < (a0.size : Int) then 8 else (a0.size : Int))), (8, iv x3), (24, .bool (decide ((bt a0 x3) < 128)))]) (by kernel_rfl) ?_
   refine oD ?_
   refine qT ?_
   by_cases hb8 : (decide ((bt a0 x3) < 128)) = true
   ·
    rw [if_pos hb8] at h1
    refine CodT.yes' (b := decide ((bt a0 x3) < 128)) (by kernel_rfl) hb8 ?_
    obtain ⟨r2, h2, h1⟩ := bindS h1
    refine CodT.meet (fun a w => ∃ (x9 : WireGot_int), x9 = r2 ∧ Fr 45 [(2, pb b1)] a ∧ Inv w0 Z w (star (pt b1 (.cells (c_WireGot_int x9).toArray 86 (0, 0))) A)) ?_ ?_
    ·
     refine CodT.drawI (n := 19) [18] (by kernel_rfl) (by kernel_rfl) hI ?_
     intro w hI
     refine GmT.p' 0 25 (iv (bOr .i64 x2 (bShl .i64 (wi64 (bAnd .u8 (bt a0 x3) 127)) (wi64 (7 * x3))))) (by kernel_rfl) (by kernel_rfl) ?_
     refine GmT.p' 1 26 (.string a0) (by kernel_rfl) (by kernel_rfl) ?_
     refine GmT.p' 2 27 (iv x3) (by kernel_rfl) (by kernel_rfl) ?_
     refine GmT.p' 3 28 (iv (wi64 (x3 + 1))) (by kernel_rfl) (by kernel_rfl) ?_
     refine GmT.p' 5 30 (iv (bOr .i64 x2 (bShl .i64 (wi64 (bAnd .u8 (bt a0 x3) 127)) (wi64 (7 * x3))))) (by kernel_rfl) (by kernel_rfl) ?_
     refine GmT.p' 6 31 (.bool (decide ((bOr .i64 x2 (bShl .i64 (wi64 (bAnd .u8 (bt a0 x3) 127)) (wi64 (7 * x3)))) ≤ 1125899906842624))) (by kernel_rfl) (by kernel_rfl) ?_
     refine GmT.p' 7 32 (.bool (decide ((bOr .i64 x2 (bShl .i64 (wi64 (bAnd .u8 (bt a0 x3) 127)) (wi64 (7 * x3)))) ≤ 1125899906842624))) (by kernel_rfl) (by kernel_rfl) ?_
     by_cases hb10 : (decide ((bOr .i64 x2 (bShl .i64 (wi64 (bAnd .u8 (bt a0 x3) 127)) (wi64 (7 * x3)))) ≤ 1125899906842624)) = true
     ·
      rw [if_pos hb10] at h2
      refine GmT.keep [0, 2, 4, 25, 26, 28, 32] (S' := [(0, .string a0), (2, pb b1), (4, iv x3), (25, iv (bOr .i64 x2 (bShl .i64 (wi64 (bAnd .u8 (bt a0 x3) 127)) (wi64 (7 * x3))))), (26, .string a0), (28, iv (wi64 (x3 + 1))), (32, .bool true)]) (by simp only [hb10]; kernel_rfl) ?_
      refine GmT.p' 8 33 (iv x3) (by kernel_rfl) (by kernel_rfl) ?_
      refine GmT.p' 9 34 (.bool (x3 == 0)) (by kernel_rfl) (by kernel_rfl) ?_
      refine GmT.p' 10 35 (.bool (x3 == 0)) (by kernel_rfl) (by kernel_rfl) ?_
      by_cases hb11 : (x3 == 0) = true
      ·
       rw [if_pos hb11] at h2
       refine GmT.keep [0, 2, 4, 25, 26, 28, 32, 35] (S' := [(0, .string a0), (2, pb b1), (4, iv x3), (25, iv (bOr .i64 x2 (bShl .i64 (wi64 (bAnd .u8 (bt a0 x3) 127)) (wi64 (7 * x3))))), (26, .string a0), (28, iv (wi64 (x3 + 1))), (32, .bool true), (35, .bool true)]) (by simp only [hb11]; kernel_rfl) ?_
       refine GmT.p' 11 36 (undef) (by kernel_rfl) (by kernel_rfl) ?_
       refine GmT.p' 12 37 (undef) (by kernel_rfl) (by kernel_rfl) ?_
       refine GmT.p' 13 38 (undef) (by kernel_rfl) (by kernel_rfl) ?_
       refine GmT.p' 14 39 (undef) (by kernel_rfl) (by kernel_rfl) ?_
       refine GmT.p' 15 40 (.bool true) (by kernel_rfl) (by kernel_rfl) ?_
       refine GmT.p' 16 41 (.bool true) (by kernel_rfl) (by kernel_rfl) ?_
       obtain ⟨hg12, h2⟩ := guardS h2
       refine GmT.r (i := 4) 2 (by kernel_rfl) (by kernel_rfl) (Yl.sliceStr10 (d := 29) (T := 9) (s := a0) (lo := wi64 (x3 + 1)) (by kernel_rfl) Go.Proofs.Try.underlying9 hg12) hI ?_
       refine GmT.p' 17 42 (.agg (c_WireGot_int (WireGot_int.mk (bOr .i64 x2 (bShl .i64 (wi64 (bAnd .u8 (bt a0 x3) 127)) (wi64 (7 * x3)))) (sx a0 (wi64 (x3 + 1)) (a0.size : Int)) true)).toArray) (by kernel_rfl) (by kernel_rfl) ?_
       refine GmT.o (i := 18) (by kernel_rfl) (dS (T := 86) (b := b1) (o := 0) (v := .agg (c_WireGot_int (WireGot_int.mk (bOr .i64 x2 (bShl .i64 (wi64 (bAnd .u8 (bt a0 x3) 127)) (wi64 (7 * x3)))) (sx a0 (wi64 (x3 + 1)) (a0.size : Int)) true)).toArray) (l := c_WireGot_int (WireGot_int.mk 0 (⟨#[]⟩ : ByteArray) false)) (vs := c_WireGot_int (WireGot_int.mk (bOr .i64 x2 (bShl .i64 (wi64 (bAnd .u8 (bt a0 x3) 127)) (wi64 (7 * x3)))) (sx a0 (wi64 (x3 + 1)) (a0.size : Int)) true)) (L' := c_WireGot_int (WireGot_int.mk (bOr .i64 x2 (bShl .i64 (wi64 (bAnd .u8 (bt a0 x3) 127)) (wi64 (7 * x3)))) (sx a0 (wi64 (x3 + 1)) (a0.size : Int)) true)) (by kernel_rfl) ty86 hI (by kernel_rfl) (by kernel_rfl) (by kernel_rfl) (by kernel_rfl) (by kernel_rfl) ?_)
       intro w hI
       refine ⟨fun h => absurd h (by decide), ?_⟩
       refine GmT.done (by kernel_rfl) ?_
       have e := someS h2
       subst e
       exact Qn.thenJ fun a ha => ⟨(WireGot_int.mk (bOr .i64 x2 (bShl .i64 (wi64 (bAnd .u8 (bt a0 x3) 127)) (wi64 (7 * x3)))) (sx a0 (wi64 (x3 + 1)) (a0.size : Int)) true), rfl, ha.keep [2] (by kernel_rfl), hI⟩
      ·
       rw [if_neg hb11] at h2
       have hb11 : (x3 == 0) = false := by simpa using hb11
       refine GmT.keep [0, 2, 4, 25, 26, 28, 32, 35] (S' := [(0, .string a0), (2, pb b1), (4, iv x3), (25, iv (bOr .i64 x2 (bShl .i64 (wi64 (bAnd .u8 (bt a0 x3) 127)) (wi64 (7 * x3))))), (26, .string a0), (28, iv (wi64 (x3 + 1))), (32, .bool true), (35, .bool false)]) (by simp only [hb11]; kernel_rfl) ?_
       refine GmT.p' 11 36 (.string a0) (by kernel_rfl) (by kernel_rfl) ?_
       refine GmT.p' 12 37 (iv x3) (by kernel_rfl) (by kernel_rfl) ?_
       obtain ⟨hg13, h2⟩ := guardS h2
       refine GmT.r (i := 4) 2 (by kernel_rfl) (by kernel_rfl) (Yl.sliceStr10 (d := 29) (T := 9) (s := a0) (lo := wi64 (x3 + 1)) (by kernel_rfl) Go.Proofs.Try.underlying9 hg13) hI ?_
       obtain ⟨hg14, h2⟩ := guardS h2
       refine GmT.r (i := 13) 2 (by kernel_rfl) (by kernel_rfl) (Yl.indexStr (d := 38) (T := 9) (k := .i64) (j := x3) (s := a0) (by kernel_rfl) Go.Proofs.Try.underlying9 hg14.1 hg14.2) hI ?_
       refine GmT.p' 14 39 (.bool (decide ((bt a0 x3) > 0))) (by kernel_rfl) (by kernel_rfl) ?_
       refine GmT.p' 15 40 (.bool (decide ((bt a0 x3) > 0))) (by kernel_rfl) (by kernel_rfl) ?_
       refine GmT.p' 16 41 (.bool (decide ((bt a0 x3) > 0))) (by kernel_rfl) (by kernel_rfl) ?_
       refine GmT.p' 17 42 (.agg (c_WireGot_int (WireGot_int.mk (bOr .i64 x2 (bShl .i64 (wi64 (bAnd .u8 (bt a0 x3) 127)) (wi64 (7 * x3)))) (sx a0 (wi64 (x3 + 1)) (a0.size : Int)) (decide ((bt a0 x3) > 0)))).toArray) (by kernel_rfl) (by kernel_rfl) ?_
       refine GmT.o (i := 18) (by kernel_rfl) (dS (T := 86) (b := b1) (o := 0) (v := .agg (c_WireGot_int (WireGot_int.mk (bOr .i64 x2 (bShl .i64 (wi64 (bAnd .u8 (bt a0 x3) 127)) (wi64 (7 * x3)))) (sx a0 (wi64 (x3 + 1)) (a0.size : Int)) (decide ((bt a0 x3) > 0)))).toArray) (l := c_WireGot_int (WireGot_int.mk 0 (⟨#[]⟩ : ByteArray) false)) (vs := c_WireGot_int (WireGot_int.mk (bOr .i64 x2 (bShl .i64 (wi64 (bAnd .u8 (bt a0 x3) 127)) (wi64 (7 * x3)))) (sx a0 (wi64 (x3 + 1)) (a0.size : Int)) (decide ((bt a0 x3) > 0)))) (L' := c_WireGot_int (WireGot_int.mk (bOr .i64 x2 (bShl .i64 (wi64 (bAnd .u8 (bt a0 x3) 127)) (wi64 (7 * x3)))) (sx a0 (wi64 (x3 + 1)) (a0.size : Int)) (decide ((bt a0 x3) > 0)))) (by kernel_rfl) ty86 hI (by kernel_rfl) (by kernel_rfl) (by kernel_rfl) (by kernel_rfl) (by kernel_rfl) ?_)
       intro w hI
       refine ⟨fun h => absurd h (by decide), ?_⟩
       refine GmT.done (by kernel_rfl) ?_
       have e := someS h2
       subst e
       exact Qn.thenJ fun a ha => ⟨(WireGot_int.mk (bOr .i64 x2 (bShl .i64 (wi64 (bAnd .u8 (bt a0 x3) 127)) (wi64 (7 * x3)))) (sx a0 (wi64 (x3 + 1)) (a0.size : Int)) (decide ((bt a0 x3) > 0))), rfl, ha.keep [2] (by kernel_rfl), hI⟩
     ·
      rw [if_neg hb10] at h2
      have hb10 : (decide ((bOr .i64 x2 (bShl .i64 (wi64 (bAnd .u8 (bt a0 x3) 127)) (wi64 (7 * x3)))) ≤ 1125899906842624)) = false := by simpa using hb10
      refine GmT.keep [0, 2, 4, 25, 26, 28, 32] (S' := [(0, .string a0), (2, pb b1), (4, iv x3), (25, iv (bOr .i64 x2 (bShl .i64 (wi64 (bAnd .u8 (bt a0 x3) 127)) (wi64 (7 * x3))))), (26, .string a0), (28, iv (wi64 (x3 + 1))), (32, .bool false)]) (by simp only [hb10]; kernel_rfl) ?_
      refine GmT.p' 8 33 (undef) (by kernel_rfl) (by kernel_rfl) ?_
      refine GmT.p' 9 34 (undef) (by kernel_rfl) (by kernel_rfl) ?_
      refine GmT.p' 10 35 (undef) (by kernel_rfl) (by kernel_rfl) ?_
      refine GmT.p' 11 36 (undef) (by kernel_rfl) (by kernel_rfl) ?_
      refine GmT.p' 12 37 (undef) (by kernel_rfl) (by kernel_rfl) ?_
      refine GmT.p' 13 38 (undef) (by kernel_rfl) (by kernel_rfl) ?_
      refine GmT.p' 14 39 (undef) (by kernel_rfl) (by kernel_rfl) ?_
      refine GmT.p' 15 40 (undef) (by kernel_rfl) (by kernel_rfl) ?_
      refine GmT.p' 16 41 (.bool false) (by kernel_rfl) (by kernel_rfl) ?_
      obtain ⟨hg15, h2⟩ := guardS h2
      refine GmT.r (i := 4) 2 (by kernel_rfl) (by kernel_rfl) (Yl.sliceStr10 (d := 29) (T := 9) (s := a0) (lo := wi64 (x3 + 1)) (by kernel_rfl) Go.Proofs.Try.underlying9 hg15) hI ?_
      refine GmT.p' 17 42 (.agg (c_WireGot_int (WireGot_int.mk (bOr .i64 x2 (bShl .i64 (wi64 (bAnd .u8 (bt a0 x3) 127)) (wi64 (7 * x3)))) (sx a0 (wi64 (x3 + 1)) (a0.size : Int)) false)).toArray) (by kernel_rfl) (by kernel_rfl) ?_
      refine GmT.o (i := 18) (by kernel_rfl) (dS (T := 86) (b := b1) (o := 0) (v := .agg (c_WireGot_int (WireGot_int.mk (bOr .i64 x2 (bShl .i64 (wi64 (bAnd .u8 (bt a0 x3) 127)) (wi64 (7 * x3)))) (sx a0 (wi64 (x3 + 1)) (a0.size : Int)) false)).toArray) (l := c_WireGot_int (WireGot_int.mk 0 (⟨#[]⟩ : ByteArray) false)) (vs := c_WireGot_int (WireGot_int.mk (bOr .i64 x2 (bShl .i64 (wi64 (bAnd .u8 (bt a0 x3) 127)) (wi64 (7 * x3)))) (sx a0 (wi64 (x3 + 1)) (a0.size : Int)) false)) (L' := c_WireGot_int (WireGot_int.mk (bOr .i64 x2 (bShl .i64 (wi64 (bAnd .u8 (bt a0 x3) 127)) (wi64 (7 * x3)))) (sx a0 (wi64 (x3 + 1)) (a0.size : Int)) false)) (by kernel_rfl) ty86 hI (by kernel_rfl) (by kernel_rfl) (by kernel_rfl) (by kernel_rfl) (by kernel_rfl) ?_)
      intro w hI
      refine ⟨fun h => absurd h (by decide), ?_⟩
      refine GmT.done (by kernel_rfl) ?_
      have e := someS h2
      subst e
      exact Qn.thenJ fun a ha => ⟨(WireGot_int.mk (bOr .i64 x2 (bShl .i64 (wi64 (bAnd .u8 (bt a0 x3) 127)) (wi64 (7 * x3)))) (sx a0 (wi64 (x3 + 1)) (a0.size : Int)) false), rfl, ha.keep [2] (by kernel_rfl), hI⟩
    ·
     rintro a w ⟨x9, rfl, ha, hI⟩
     try dsimp only at h1
     refine CodT.of ?_ ha
     refine CodT.ret ?_
     refine Qn.block_ret ?_
     refine Qn.ret_then ?_
     refine Qn.ret_then ?_
     refine Qn.block_ret ?_
     refine Qn.ret_then ?_
     refine Qn.ret_then ?_
     have hL16 := (ldBN ty86 (l := c_WireGot_int x9) (o := 0) (cs := c_WireGot_int x9) (ent_refl _) (by kernel_rfl) (whole _ _ (by kernel_rfl))) w hI
     have hI := hI.drop
     have e := someS h1
     subst e
     try dsimp only at h0
     have e := someS h0
     subst e
     refine qK [2] (S' := [(2, pb b1)]) (by kernel_rfl) ?_
     exact post_ret (v := .agg (c_WireGot_int x9).toArray) (fun a ha => RunRes.run (vs := [.agg (c_WireGot_int x9).toArray]) (.cell (t := 2) (T := 86) (ad := ⟨b1, 0, none⟩) (by kernel_rfl) hL16 .nil) ha (by kernel_rfl)) ⟨rfl, hI⟩
   ·
    rw [if_neg hb8] at h1
    refine CodT.no' (b := decide ((bt a0 x3) < 128)) (by kernel_rfl) (by simpa using hb8) ?_
    refine CodT.skip ?_
    refine Qn.block_normal ?_
    refine qT ?_
    refine cR [0, 1] (by kernel_rfl) ?_
    refine oP (r := []) [0, 1] (S' := [(0, .string a0), (2, pb b1), (3, iv (bOr .i64 x2 (bShl .i64 (wi64 (bAnd .u8 (bt a0 x3) 127)) (wi64 (7 * x3))))), (7, iv (if 8 < (a0.size : Int) then 8 else (a0.size : Int))), (8, iv (wi64 (x3 + 1)))]) (by kernel_rfl) ?_
    refine oD ?_
    exact Qn.thenJ fun a ha => ⟨k, Nat.lt_succ_self k, bOr .i64 x2 (bShl .i64 (wi64 (bAnd .u8 (bt a0 x3) 127)) (wi64 (7 * x3))), wi64 (x3 + 1), h1, ha.keep [0, 2, 3, 7, 8] (by kernel_rfl), hI⟩
  ·
   rw [if_neg hb4] at h1
   refine CodT.no' (b := decide (x3 < (if 8 < (a0.size : Int) then 8 else (a0.size : Int)))) (by kernel_rfl) (by simpa using hb4) ?_
   refine CodT.exit ?_
   refine Qn.exit_then ?_
   refine Qn.exit_then ?_
   refine Qn.block ?_
   have e := someS h1
   subst e
   exact Qn.thenJ fun a ha => ⟨rfl, ha.keep [2] (by kernel_rfl), hI⟩
 ·
  rintro a w ⟨rfl, ha, hI⟩
  try dsimp only at h0
  refine Qn.of ?_ ha
  refine qT ?_
  refine cQ ?_
  refine cR [0, 1] (by kernel_rfl) ?_
  refine oP (r := [1]) [0] (S' := [(2, pb b1), (44, .agg (c_WireGot_int (WireGot_int.mk 0 (⟨#[]⟩ : ByteArray) false)).toArray)]) (by kernel_rfl) ?_
  refine oC (dS (T := 86) (b := b1) (o := 0) (v := .agg (c_WireGot_int (WireGot_int.mk 0 (⟨#[]⟩ : ByteArray) false)).toArray) (l := c_WireGot_int (WireGot_int.mk 0 (⟨#[]⟩ : ByteArray) false)) (vs := c_WireGot_int (WireGot_int.mk 0 (⟨#[]⟩ : ByteArray) false)) (L' := c_WireGot_int (WireGot_int.mk 0 (⟨#[]⟩ : ByteArray) false)) (by kernel_rfl) ty86 hI (by kernel_rfl) (by kernel_rfl) (by kernel_rfl) (by kernel_rfl) (by kernel_rfl) ?_)
  intro w hI
  refine oD ?_
  refine qT ?_
  refine CodT.ret ?_
  have hL17 := (ldBN ty86 (l := c_WireGot_int (WireGot_int.mk 0 (⟨#[]⟩ : ByteArray) false)) (o := 0) (cs := c_WireGot_int (WireGot_int.mk 0 (⟨#[]⟩ : ByteArray) false)) (ent_refl _) (by kernel_rfl) (whole _ _ (by kernel_rfl))) w hI
  have hI := hI.drop
  have e := someS h0
  subst e
  refine qK [2] (S' := [(2, pb b1)]) (by kernel_rfl) ?_
  exact post_ret (v := .agg (c_WireGot_int (WireGot_int.mk 0 (⟨#[]⟩ : ByteArray) false)).toArray) (fun a ha => RunRes.run (vs := [.agg (c_WireGot_int (WireGot_int.mk 0 (⟨#[]⟩ : ByteArray) false)).toArray]) (.cell (t := 2) (T := 86) (ad := ⟨b1, 0, none⟩) (by kernel_rfl) hL17 .nil) ha (by kernel_rfl)) ⟨rfl, hI⟩
/-- (cenotaph/wire.got[int]).parts -/
theorem c46 (w0 w : World) (Z : Hp) (A : HP) (hI : Inv w0 Z w A) (a0 : WireGot_int) (r : (Int × ByteArray × Bool)) (h0 : wire_got_int_parts a0 = some r) :
  Calls prog 46 #[.agg (c_WireGot_int a0).toArray] w (fun e w' => e = .returned (.tuple #[iv r.1, .string r.2.1, .bool r.2.2]) ∧ Inv w0 Z w' A) := by
 have e4 := calls_intro (R := (fun e w' => e = .returned (.tuple #[iv r.1, .string r.2.1, .bool r.2.2]) ∧ Inv w0 Z w' A)) (w := w) (args := [.agg (c_WireGot_int a0).toArray]) (fn := Go.Proofs.Try.f46) 14 Go.Proofs.Try.func46 (by rfl) Go.Proofs.Try.ntmps46 (by kernel_rfl)
 refine e4 ?_
 clear e4
 unfold wire_got_int_parts at h0
 refine cQ ?_
 refine cR [0, 1, 2, 3] (by kernel_rfl) ?_
 refine oC (Does.boxL (d := 1) (T := 86) (v := .agg (c_WireGot_int a0).toArray) (c_WireGot_int a0) (by kernel_rfl) hI (by kernel_rfl) ?_)
 intro b1 w hI
 refine oP (r := []) [1, 2, 3] (S' := [(1, pb b1)]) (by kernel_rfl) ?_
 refine oD ?_
 refine qT ?_
 refine cQ ?_
 refine cQ ?_
 refine cR [0, 1, 2] (by kernel_rfl) ?_
 refine oP (r := [1, 2]) [0] (S' := [(1, pb b1), (6, .pointer (some ⟨b1, 2, none⟩))]) (by kernel_rfl) ?_
 refine oC (Does.yi (Yl.load (d := 7) (T := 4) (v := .bool a0.ok) (by kernel_rfl) (ldB ty4 (l := c_WireGot_int a0) (o := 2) (v := .bool a0.ok) (ent_refl _) (by kernel_rfl))) hI ?_)
 refine oP (r := []) [2] (S' := [(1, pb b1), (8, .bool (!a0.ok))]) (by kernel_rfl) ?_
 refine oD ?_
 refine qT ?_
 by_cases hb2 : (!a0.ok) = true
 ·
  rw [if_pos hb2] at h0
  refine CodT.yes' (b := !a0.ok) (by kernel_rfl) hb2 ?_
  refine cQ ?_
  refine cR [0] (by kernel_rfl) ?_
  refine oP (r := []) [0] (S' := [(5, iv 0)]) (by kernel_rfl) ?_
  refine oD ?_
  refine qT ?_
  refine cQ ?_
  refine cR [0, 1, 2, 3] (by kernel_rfl) ?_
  refine oP (r := []) [0, 1, 2, 3] (S' := [(2, iv 0), (3, .string (⟨#[]⟩ : ByteArray)), (4, .bool false)]) (by kernel_rfl) ?_
  refine oD ?_
  refine qT ?_
  refine CodT.ret ?_
  refine Qn.ret_then ?_
  have hI := hI.drop
  have e := someS h0
  subst e
  refine qK [2, 3, 4] (S' := [(2, iv 0), (3, .string (⟨#[]⟩ : ByteArray)), (4, .bool false)]) (by kernel_rfl) ?_
  exact post_ret (v := .tuple #[iv 0, .string (⟨#[]⟩ : ByteArray), .bool false]) (fun a ha => RunRes.run (vs := [iv 0, .string (⟨#[]⟩ : ByteArray), .bool false]) (.tmp (t := 2) (by kernel_rfl) (.tmp (t := 3) (by kernel_rfl) (.tmp (t := 4) (by kernel_rfl) .nil))) ha (by kernel_rfl)) ⟨rfl, hI⟩
 ·
  rw [if_neg hb2] at h0
  refine CodT.no' (b := !a0.ok) (by kernel_rfl) (by simpa using hb2) ?_
  refine CodT.skip ?_
  refine qT ?_
  refine cQ ?_
  refine CodT.drawI (n := 7) [] (by kernel_rfl) (by kernel_rfl) hI ?_
  intro w hI
  refine GmT.p' 0 10 (pb b1) (by kernel_rfl) (by kernel_rfl) ?_
  refine GmT.p' 2 12 (.pointer (some ⟨b1, 1, none⟩)) (by kernel_rfl) (by kernel_rfl) ?_
  refine GmT.r (i := 1) 2 (by kernel_rfl) (by kernel_rfl) (Yl.load (d := 11) (T := 3) (v := iv a0.x) (by kernel_rfl) (ldB ty3 (l := c_WireGot_int a0) (o := 0) (v := iv a0.x) (ent_refl _) (by kernel_rfl))) hI ?_
  refine GmT.p' 4 2 (iv a0.x) (by kernel_rfl) (by kernel_rfl) ?_
  refine GmT.r (i := 3) 2 (by kernel_rfl) (by kernel_rfl) (Yl.load (d := 13) (T := 9) (v := .string a0.rest) (by kernel_rfl) (ldB ty9 (l := c_WireGot_int a0) (o := 1) (v := .string a0.rest) (ent_refl _) (by kernel_rfl))) hI ?_
  refine GmT.p' 5 3 (.string a0.rest) (by kernel_rfl) (by kernel_rfl) ?_
  refine GmT.p' 6 4 (.bool true) (by kernel_rfl) (by kernel_rfl) ?_
  refine GmT.done (by kernel_rfl) ?_
  refine qT ?_
  refine CodT.ret ?_
  have hI := hI.drop
  have e := someS h0
  subst e
  refine qK [2, 3, 4] (S' := [(2, iv a0.x), (3, .string a0.rest), (4, .bool true)]) (by kernel_rfl) ?_
  exact post_ret (v := .tuple #[iv a0.x, .string a0.rest, .bool true]) (fun a ha => RunRes.run (vs := [iv a0.x, .string a0.rest, .bool true]) (.tmp (t := 2) (by kernel_rfl) (.tmp (t := 3) (by kernel_rfl) (.tmp (t := 4) (by kernel_rfl) .nil))) ha (by kernel_rfl)) ⟨rfl, hI⟩
/-- cenotaph/wire.GetNum -/
theorem c28 (w0 w : World) (Z : Hp) (A : HP) (hI : Inv w0 Z w A) (a0 : ByteArray) (r : (Int × ByteArray × Bool)) (h0 : wire_GetNum a0 = some r) :
  Calls prog 28 #[.string a0] w (fun e w' => e = .returned (.tuple #[iv r.1, .string r.2.1, .bool r.2.2]) ∧ Inv w0 Z w' A) := by
 have e4 := calls_intro (R := (fun e w' => e = .returned (.tuple #[iv r.1, .string r.2.1, .bool r.2.2]) ∧ Inv w0 Z w' A)) (w := w) (args := [.string a0]) (fn := Go.Proofs.Try.f28) 11 Go.Proofs.Try.func28 (by rfl) Go.Proofs.Try.ntmps28 (by kernel_rfl)
 refine e4 ?_
 clear e4
 unfold wire_GetNum at h0
 refine cQ ?_
 refine cR [0, 1, 2] (by kernel_rfl) ?_
 refine oP (r := []) [0, 1, 2] (S' := [(0, .string a0)]) (by kernel_rfl) ?_
 refine oD ?_
 refine qT ?_
 refine cQ ?_
 refine cR [0, 1, 2, 3, 4, 5, 6, 7, 8] (by kernel_rfl) ?_
 refine oP (r := [1, 2, 3, 4, 5, 6, 7, 8]) [0] (S' := [(5, .string a0)]) (by kernel_rfl) ?_
 obtain ⟨y2, hc1, h0⟩ := bindS h0
 try dsimp only at h0
 refine oC (Does.call (d := some 6) (n := 45) (vs := [.string a0]) (by kernel_rfl) en45 (c45 w0 w _ _ hI a0 _ hc1) ?_)
 rintro e w ⟨rfl, hI⟩
 refine ⟨_, rfl, ?_⟩
 obtain ⟨⟨y4, y5, y6⟩, hc3, h0⟩ := bindS h0
 try dsimp only at h0
 refine oC (Does.call (d := some 7) (n := 46) (vs := [.agg (c_WireGot_int y2).toArray]) (by kernel_rfl) en46 (c46 w0 w _ _ hI y2 _ hc3) ?_)
 rintro e w ⟨rfl, hI⟩
 refine ⟨_, rfl, ?_⟩
 refine oP (r := []) [3, 4, 5, 6, 7, 8] (S' := [(2, iv y4), (3, .string y5), (4, .bool y6)]) (by kernel_rfl) ?_
 refine oD ?_
 refine qT ?_
 refine CodT.ret ?_
 have e := someS h0
 subst e
 refine qK [2, 3, 4] (S' := [(2, iv y4), (3, .string y5), (4, .bool y6)]) (by kernel_rfl) ?_
 exact post_ret (v := .tuple #[iv y4, .string y5, .bool y6]) (fun a ha => RunRes.run (vs := [iv y4, .string y5, .bool y6]) (.tmp (t := 2) (by kernel_rfl) (.tmp (t := 3) (by kernel_rfl) (.tmp (t := 4) (by kernel_rfl) .nil))) ha (by kernel_rfl)) ⟨rfl, hI⟩
/-- cenotaph/event.words -/
theorem c29 (w0 w : World) (Z : Hp) (A : HP) (hI : Inv w0 Z w A)  (r : (List ByteArray)) (h0 : event_words = some r) :
  Calls prog 29 #[] w (fun e w' => e = .returned (.agg (cA Value.string r).toArray) ∧ r.length = 8 ∧ Inv w0 Z w' A) := by
 have e4 := calls_intro (R := (fun e w' => e = .returned (.agg (cA Value.string r).toArray) ∧ r.length = 8 ∧ Inv w0 Z w' A)) (w := w) (args := []) (fn := Go.Proofs.Try.f29) 2 Go.Proofs.Try.func29 (by rfl) Go.Proofs.Try.ntmps29 (by kernel_rfl)
 refine e4 ?_
 clear e4
 unfold event_words at h0
 refine cQ ?_
 refine cR [0] (by kernel_rfl) ?_
 refine oC (Does.allocL (d := 0) (T := 61) (cA Value.string (List.replicate 8 ((⟨#[]⟩ : ByteArray) : ByteArray))) (by kernel_rfl) ty61 hI (by kernel_rfl) ?_)
 intro b1 w hI
 refine oD ?_
 refine qT ?_
 refine cQ ?_
 refine cR [0, 1] (by kernel_rfl) ?_
 refine oP (r := [1]) [0] (S' := [(0, pb b1), (1, .agg (cA Value.string ([(⟨#[99, 114, 101, 97, 116, 101]⟩ : ByteArray), (⟨#[97, 112, 112, 101, 110, 100]⟩ : ByteArray), (⟨#[115, 101, 97, 108]⟩ : ByteArray), (⟨#[101, 120, 116, 101, 110, 100]⟩ : ByteArray), (⟨#[104, 111, 108, 100]⟩ : ByteArray), (⟨#[114, 101, 108, 101, 97, 115, 101]⟩ : ByteArray), (⟨#[100, 101, 108, 101, 116, 101]⟩ : ByteArray), (⟨#[116, 105, 99, 107]⟩ : ByteArray)] : List ByteArray)).toArray)]) (by kernel_rfl) ?_
 refine oC (Does.storeAll (T := 61) (b := b1) (n := 8) (xs := (List.replicate 8 ((⟨#[]⟩ : ByteArray) : ByteArray))) (ys := ([(⟨#[99, 114, 101, 97, 116, 101]⟩ : ByteArray), (⟨#[97, 112, 112, 101, 110, 100]⟩ : ByteArray), (⟨#[115, 101, 97, 108]⟩ : ByteArray), (⟨#[101, 120, 116, 101, 110, 100]⟩ : ByteArray), (⟨#[104, 111, 108, 100]⟩ : ByteArray), (⟨#[114, 101, 108, 101, 97, 115, 101]⟩ : ByteArray), (⟨#[100, 101, 108, 101, 116, 101]⟩ : ByteArray), (⟨#[116, 105, 99, 107]⟩ : ByteArray)] : List ByteArray)) (by kernel_rfl) ty61 hI (fun _ => rfl) (by kernel_rfl) (by kernel_rfl) ?_)
 intro w hI
 refine oD ?_
 refine qT ?_
 refine CodT.ret ?_
 have hL2 := (ldBN ty61 (l := cA Value.string ([(⟨#[99, 114, 101, 97, 116, 101]⟩ : ByteArray), (⟨#[97, 112, 112, 101, 110, 100]⟩ : ByteArray), (⟨#[115, 101, 97, 108]⟩ : ByteArray), (⟨#[101, 120, 116, 101, 110, 100]⟩ : ByteArray), (⟨#[104, 111, 108, 100]⟩ : ByteArray), (⟨#[114, 101, 108, 101, 97, 115, 101]⟩ : ByteArray), (⟨#[100, 101, 108, 101, 116, 101]⟩ : ByteArray), (⟨#[116, 105, 99, 107]⟩ : ByteArray)] : List ByteArray)) (o := 0) (cs := cA Value.string ([(⟨#[99, 114, 101, 97, 116, 101]⟩ : ByteArray), (⟨#[97, 112, 112, 101, 110, 100]⟩ : ByteArray), (⟨#[115, 101, 97, 108]⟩ : ByteArray), (⟨#[101, 120, 116, 101, 110, 100]⟩ : ByteArray), (⟨#[104, 111, 108, 100]⟩ : ByteArray), (⟨#[114, 101, 108, 101, 97, 115, 101]⟩ : ByteArray), (⟨#[100, 101, 108, 101, 116, 101]⟩ : ByteArray), (⟨#[116, 105, 99, 107]⟩ : ByteArray)] : List ByteArray)) (ent_refl _) ((cA_length _ _).trans (by kernel_rfl)) (whole _ _ ((cA_length _ _).trans (by kernel_rfl)))) w hI
 have hI := hI.drop
 have e := someS h0
 subst e
 refine qK [0] (S' := [(0, pb b1)]) (by kernel_rfl) ?_
 exact post_ret (v := .agg (cA Value.string ([(⟨#[99, 114, 101, 97, 116, 101]⟩ : ByteArray), (⟨#[97, 112, 112, 101, 110, 100]⟩ : ByteArray), (⟨#[115, 101, 97, 108]⟩ : ByteArray), (⟨#[101, 120, 116, 101, 110, 100]⟩ : ByteArray), (⟨#[104, 111, 108, 100]⟩ : ByteArray), (⟨#[114, 101, 108, 101, 97, 115, 101]⟩ : ByteArray), (⟨#[100, 101, 108, 101, 116, 101]⟩ : ByteArray), (⟨#[116, 105, 99, 107]⟩ : ByteArray)] : List ByteArray)).toArray) (fun a ha => RunRes.run (vs := [.agg (cA Value.string ([(⟨#[99, 114, 101, 97, 116, 101]⟩ : ByteArray), (⟨#[97, 112, 112, 101, 110, 100]⟩ : ByteArray), (⟨#[115, 101, 97, 108]⟩ : ByteArray), (⟨#[101, 120, 116, 101, 110, 100]⟩ : ByteArray), (⟨#[104, 111, 108, 100]⟩ : ByteArray), (⟨#[114, 101, 108, 101, 97, 115, 101]⟩ : ByteArray), (⟨#[100, 101, 108, 101, 116, 101]⟩ : ByteArray), (⟨#[116, 105, 99, 107]⟩ : ByteArray)] : List ByteArray)).toArray]) (.cell (t := 0) (T := 61) (ad := ⟨b1, 0, none⟩) (by kernel_rfl) hL2 .nil) ha (by kernel_rfl)) ⟨rfl, (by kernel_rfl), hI⟩
/-- cenotaph/wire.text -/
theorem c62 (w0 w : World) (Z : Hp) (A : HP) (hI : Inv w0 Z w A) (a0 : ByteArray) (a1 : Int) (r : WireGot_string) (h0 : wire_text a0 a1 = some r) :
  Calls prog 62 #[.string a0, iv a1] w (fun e w' => e = .returned (.agg (c_WireGot_string r).toArray) ∧ Inv w0 Z w' A) := by
 have e4 := calls_intro (R := (fun e w' => e = .returned (.agg (c_WireGot_string r).toArray) ∧ Inv w0 Z w' A)) (w := w) (args := [.string a0, iv a1]) (fn := Go.Proofs.Try.f62) 32 Go.Proofs.Try.func62 (by rfl) Go.Proofs.Try.ntmps62 (by kernel_rfl)
 refine e4 ?_
 clear e4
 unfold wire_text at h0
 refine cQ ?_
 refine cR [0] (by kernel_rfl) ?_
 refine oC (Does.allocL (d := 4) (T := 106) (c_WireGot_string (WireGot_string.mk (⟨#[]⟩ : ByteArray) (⟨#[]⟩ : ByteArray) false)) (by kernel_rfl) ty106 hI (by kernel_rfl) ?_)
 intro b1 w hI
 refine oD ?_
 refine qT ?_
 refine cQ ?_
 refine cR [0, 1, 2, 3, 4, 5, 6, 7, 8] (by kernel_rfl) ?_
 refine oP (r := [1, 2, 3, 4, 5, 6, 7, 8]) [0] (S' := [(1, iv a1), (4, pb b1), (9, .string a0)]) (by kernel_rfl) ?_
 obtain ⟨⟨y3, y4, y5⟩, hc2, h0⟩ := bindS h0
 try dsimp only at h0
 refine oC (Does.call (d := some 10) (n := 28) (vs := [.string a0]) (by kernel_rfl) en28 (c28 w0 w _ _ hI a0 _ hc2) ?_)
 rintro e w ⟨rfl, hI⟩
 refine ⟨_, rfl, ?_⟩
 refine oP (r := []) [2, 3, 4, 5, 6, 7, 8] (S' := [(1, iv a1), (4, pb b1), (5, iv y3), (6, .string y4), (7, .bool y5)]) (by kernel_rfl) ?_
 refine oD ?_
 refine qT ?_
 refine cQ ?_
 obtain ⟨r1, h1, h0⟩ := bindS h0
 refine CodT.meet (fun a w => ∃ (x6 : Bool), x6 = r1 ∧ Fr 32 [(4, pb b1), (5, iv y3), (6, .string y4), (23, .bool x6)] a ∧ Inv w0 Z w (star (pt b1 (.cells (c_WireGot_string (WireGot_string.mk (⟨#[]⟩ : ByteArray) (⟨#[]⟩ : ByteArray) false)).toArray 106 (0, 0))) A)) ?_ ?_
 ·
  refine cR [0, 1, 2, 3, 4, 5, 6, 7, 8, 9] (by kernel_rfl) ?_
  refine oP (r := [3, 4, 5, 6, 7, 8, 9]) [0, 1, 2] (S' := [(1, iv a1), (4, pb b1), (5, iv y3), (6, .string y4), (16, .bool (!y5))]) (by kernel_rfl) ?_
  by_cases hb7 : (!y5) = true
  ·
   rw [if_pos hb7] at h1
   refine oK [1, 4, 5, 6, 16] (S' := [(1, iv a1), (4, pb b1), (5, iv y3), (6, .string y4), (16, .bool true)]) (by simp only [hb7]; kernel_rfl) ?_
   refine oP (r := []) [3, 4, 5, 6, 7, 8, 9] (S' := [(4, pb b1), (5, iv y3), (6, .string y4), (23, .bool true)]) (by kernel_rfl) ?_
   refine oD ?_
   have e := someS h1
   subst e
   exact Qn.thenJ fun a ha => ⟨true, rfl, ha.keep [4, 5, 6, 23] (by kernel_rfl), hI⟩
  ·
   rw [if_neg hb7] at h1
   have hb7 : (!y5) = false := by simpa using hb7
   refine oK [1, 4, 5, 6, 16] (S' := [(1, iv a1), (4, pb b1), (5, iv y3), (6, .string y4), (16, .bool false)]) (by simp only [hb7]; kernel_rfl) ?_
   refine oP (r := []) [3, 4, 5, 6, 7, 8, 9] (S' := [(4, pb b1), (5, iv y3), (6, .string y4), (23, .bool (decide (y3 > (if a1 < (y4.size : Int) then a1 else (y4.size : Int)))))]) (by kernel_rfl) ?_
   refine oD ?_
   have e := someS h1
   subst e
   exact Qn.thenJ fun a ha => ⟨decide (y3 > (if a1 < (y4.size : Int) then a1 else (y4.size : Int))), rfl, ha.keep [4, 5, 6, 23] (by kernel_rfl), hI⟩
 ·
  rintro a w ⟨x6, rfl, ha, hI⟩
  try dsimp only at h0
  refine CodT.of ?_ ha
  by_cases hb8 : x6 = true
  ·
   rw [if_pos hb8] at h0
   refine CodT.yes' (b := x6) (by kernel_rfl) hb8 ?_
   refine cQ ?_
   refine cR [0, 1] (by kernel_rfl) ?_
   refine oP (r := [1]) [0] (S' := [(4, pb b1), (24, .agg (c_WireGot_string (WireGot_string.mk (⟨#[]⟩ : ByteArray) (⟨#[]⟩ : ByteArray) false)).toArray)]) (by kernel_rfl) ?_
   refine oC (dS (T := 106) (b := b1) (o := 0) (v := .agg (c_WireGot_string (WireGot_string.mk (⟨#[]⟩ : ByteArray) (⟨#[]⟩ : ByteArray) false)).toArray) (l := c_WireGot_string (WireGot_string.mk (⟨#[]⟩ : ByteArray) (⟨#[]⟩ : ByteArray) false)) (vs := c_WireGot_string (WireGot_string.mk (⟨#[]⟩ : ByteArray) (⟨#[]⟩ : ByteArray) false)) (L' := c_WireGot_string (WireGot_string.mk (⟨#[]⟩ : ByteArray) (⟨#[]⟩ : ByteArray) false)) (by kernel_rfl) ty106 hI (by kernel_rfl) (by kernel_rfl) (by kernel_rfl) (by kernel_rfl) (by kernel_rfl) ?_)
   intro w hI
   refine oD ?_
   refine qT ?_
   refine CodT.ret ?_
   refine Qn.ret_then ?_
   have hL9 := (ldBN ty106 (l := c_WireGot_string (WireGot_string.mk (⟨#[]⟩ : ByteArray) (⟨#[]⟩ : ByteArray) false)) (o := 0) (cs := c_WireGot_string (WireGot_string.mk (⟨#[]⟩ : ByteArray) (⟨#[]⟩ : ByteArray) false)) (ent_refl _) (by kernel_rfl) (whole _ _ (by kernel_rfl))) w hI
   have hI := hI.drop
   have e := someS h0
   subst e
   refine qK [4] (S' := [(4, pb b1)]) (by kernel_rfl) ?_
   exact post_ret (v := .agg (c_WireGot_string (WireGot_string.mk (⟨#[]⟩ : ByteArray) (⟨#[]⟩ : ByteArray) false)).toArray) (fun a ha => RunRes.run (vs := [.agg (c_WireGot_string (WireGot_string.mk (⟨#[]⟩ : ByteArray) (⟨#[]⟩ : ByteArray) false)).toArray]) (.cell (t := 4) (T := 106) (ad := ⟨b1, 0, none⟩) (by kernel_rfl) hL9 .nil) ha (by kernel_rfl)) ⟨rfl, hI⟩
  ·
   rw [if_neg hb8] at h0
   refine CodT.no' (b := x6) (by kernel_rfl) (by simpa using hb8) ?_
   refine CodT.skip ?_
   refine qT ?_
   refine cQ ?_
   refine CodT.drawI (n := 8) [7] (by kernel_rfl) (by kernel_rfl) hI ?_
   intro w hI
   refine GmT.p' 0 25 (.string y4) (by kernel_rfl) (by kernel_rfl) ?_
   refine GmT.p' 1 26 (iv y3) (by kernel_rfl) (by kernel_rfl) ?_
   refine GmT.p' 3 28 (.string y4) (by kernel_rfl) (by kernel_rfl) ?_
   refine GmT.p' 4 29 (iv y3) (by kernel_rfl) (by kernel_rfl) ?_
   obtain ⟨hg10, h0⟩ := guardS h0
   refine GmT.r (i := 2) 2 (by kernel_rfl) (by kernel_rfl) (Yl.sliceStr01 (d := 27) (T := 9) (s := y4) (hi := y3) (by kernel_rfl) Go.Proofs.Try.underlying9 hg10) hI ?_
   obtain ⟨hg11, h0⟩ := guardS h0
   refine GmT.r (i := 5) 2 (by kernel_rfl) (by kernel_rfl) (Yl.sliceStr10 (d := 30) (T := 9) (s := y4) (lo := y3) (by kernel_rfl) Go.Proofs.Try.underlying9 hg11) hI ?_
   refine GmT.p' 6 31 (.agg (c_WireGot_string (WireGot_string.mk (sx y4 0 y3) (sx y4 y3 (y4.size : Int)) true)).toArray) (by kernel_rfl) (by kernel_rfl) ?_
   refine GmT.o (i := 7) (by kernel_rfl) (dS (T := 106) (b := b1) (o := 0) (v := .agg (c_WireGot_string (WireGot_string.mk (sx y4 0 y3) (sx y4 y3 (y4.size : Int)) true)).toArray) (l := c_WireGot_string (WireGot_string.mk (⟨#[]⟩ : ByteArray) (⟨#[]⟩ : ByteArray) false)) (vs := c_WireGot_string (WireGot_string.mk (sx y4 0 y3) (sx y4 y3 (y4.size : Int)) true)) (L' := c_WireGot_string (WireGot_string.mk (sx y4 0 y3) (sx y4 y3 (y4.size : Int)) true)) (by kernel_rfl) ty106 hI (by kernel_rfl) (by kernel_rfl) (by kernel_rfl) (by kernel_rfl) (by kernel_rfl) ?_)
   intro w hI
   refine ⟨fun h => absurd h (by decide), ?_⟩
   refine GmT.done (by kernel_rfl) ?_
   refine qT ?_
   refine CodT.ret ?_
   have hL12 := (ldBN ty106 (l := c_WireGot_string (WireGot_string.mk (sx y4 0 y3) (sx y4 y3 (y4.size : Int)) true)) (o := 0) (cs := c_WireGot_string (WireGot_string.mk (sx y4 0 y3) (sx y4 y3 (y4.size : Int)) true)) (ent_refl _) (by kernel_rfl) (whole _ _ (by kernel_rfl))) w hI
   have hI := hI.drop
   have e := someS h0
   subst e
   refine qK [4] (S' := [(4, pb b1)]) (by kernel_rfl) ?_
   exact post_ret (v := .agg (c_WireGot_string (WireGot_string.mk (sx y4 0 y3) (sx y4 y3 (y4.size : Int)) true)).toArray) (fun a ha => RunRes.run (vs := [.agg (c_WireGot_string (WireGot_string.mk (sx y4 0 y3) (sx y4 y3 (y4.size : Int)) true)).toArray]) (.cell (t := 4) (T := 106) (ad := ⟨b1, 0, none⟩) (by kernel_rfl) hL12 .nil) ha (by kernel_rfl)) ⟨rfl, hI⟩
/-- (cenotaph/wire.got[string]).parts -/
theorem c63 (w0 w : World) (Z : Hp) (A : HP) (hI : Inv w0 Z w A) (a0 : WireGot_string) (r : (ByteArray × ByteArray × Bool)) (h0 : wire_got_string_parts a0 = some r) :
  Calls prog 63 #[.agg (c_WireGot_string a0).toArray] w (fun e w' => e = .returned (.tuple #[.string r.1, .string r.2.1, .bool r.2.2]) ∧ Inv w0 Z w' A) := by
 have e4 := calls_intro (R := (fun e w' => e = .returned (.tuple #[.string r.1, .string r.2.1, .bool r.2.2]) ∧ Inv w0 Z w' A)) (w := w) (args := [.agg (c_WireGot_string a0).toArray]) (fn := Go.Proofs.Try.f63) 14 Go.Proofs.Try.func63 (by rfl) Go.Proofs.Try.ntmps63 (by kernel_rfl)
 refine e4 ?_
 clear e4
 unfold wire_got_string_parts at h0
 refine cQ ?_
 refine cR [0, 1, 2, 3] (by kernel_rfl) ?_
 refine oC (Does.boxL (d := 1) (T := 106) (v := .agg (c_WireGot_string a0).toArray) (c_WireGot_string a0) (by kernel_rfl) hI (by kernel_rfl) ?_)
 intro b1 w hI
 refine oP (r := []) [1, 2, 3] (S' := [(1, pb b1)]) (by kernel_rfl) ?_
 refine oD ?_
 refine qT ?_
 refine cQ ?_
 refine cQ ?_
 refine cR [0, 1, 2] (by kernel_rfl) ?_
 refine oP (r := [1, 2]) [0] (S' := [(1, pb b1), (6, .pointer (some ⟨b1, 2, none⟩))]) (by kernel_rfl) ?_
 refine oC (Does.yi (Yl.load (d := 7) (T := 4) (v := .bool a0.ok) (by kernel_rfl) (ldB ty4 (l := c_WireGot_string a0) (o := 2) (v := .bool a0.ok) (ent_refl _) (by kernel_rfl))) hI ?_)
 refine oP (r := []) [2] (S' := [(1, pb b1), (8, .bool (!a0.ok))]) (by kernel_rfl) ?_
 refine oD ?_
 refine qT ?_
 by_cases hb2 : (!a0.ok) = true
 ·
  rw [if_pos hb2] at h0
  refine CodT.yes' (b := !a0.ok) (by kernel_rfl) hb2 ?_
  refine cQ ?_
  refine cR [0] (by kernel_rfl) ?_
  refine oP (r := []) [0] (S' := [(5, .string (⟨#[]⟩ : ByteArray))]) (by kernel_rfl) ?_
  refine oD ?_
  refine qT ?_
  refine cQ ?_
  refine cR [0, 1, 2, 3] (by kernel_rfl) ?_
  refine oP (r := []) [0, 1, 2, 3] (S' := [(2, .string (⟨#[]⟩ : ByteArray)), (3, .string (⟨#[]⟩ : ByteArray)), (4, .bool false)]) (by kernel_rfl) ?_
  refine oD ?_
  refine qT ?_
  refine CodT.ret ?_
  refine Qn.ret_then ?_
  have hI := hI.drop
  have e := someS h0
  subst e
  refine qK [2, 3, 4] (S' := [(2, .string (⟨#[]⟩ : ByteArray)), (3, .string (⟨#[]⟩ : ByteArray)), (4, .bool false)]) (by kernel_rfl) ?_
  exact post_ret (v := .tuple #[.string (⟨#[]⟩ : ByteArray), .string (⟨#[]⟩ : ByteArray), .bool false]) (fun a ha => RunRes.run (vs := [.string (⟨#[]⟩ : ByteArray), .string (⟨#[]⟩ : ByteArray), .bool false]) (.tmp (t := 2) (by kernel_rfl) (.tmp (t := 3) (by kernel_rfl) (.tmp (t := 4) (by kernel_rfl) .nil))) ha (by kernel_rfl)) ⟨rfl, hI⟩
 ·
  rw [if_neg hb2] at h0
  refine CodT.no' (b := !a0.ok) (by kernel_rfl) (by simpa using hb2) ?_
  refine CodT.skip ?_
  refine qT ?_
  refine cQ ?_
  refine CodT.drawI (n := 7) [] (by kernel_rfl) (by kernel_rfl) hI ?_
  intro w hI
  refine GmT.p' 0 10 (pb b1) (by kernel_rfl) (by kernel_rfl) ?_
  refine GmT.p' 2 12 (.pointer (some ⟨b1, 1, none⟩)) (by kernel_rfl) (by kernel_rfl) ?_
  refine GmT.r (i := 1) 2 (by kernel_rfl) (by kernel_rfl) (Yl.load (d := 11) (T := 9) (v := .string a0.x) (by kernel_rfl) (ldB ty9 (l := c_WireGot_string a0) (o := 0) (v := .string a0.x) (ent_refl _) (by kernel_rfl))) hI ?_
  refine GmT.p' 4 2 (.string a0.x) (by kernel_rfl) (by kernel_rfl) ?_
  refine GmT.r (i := 3) 2 (by kernel_rfl) (by kernel_rfl) (Yl.load (d := 13) (T := 9) (v := .string a0.rest) (by kernel_rfl) (ldB ty9 (l := c_WireGot_string a0) (o := 1) (v := .string a0.rest) (ent_refl _) (by kernel_rfl))) hI ?_
  refine GmT.p' 5 3 (.string a0.rest) (by kernel_rfl) (by kernel_rfl) ?_
  refine GmT.p' 6 4 (.bool true) (by kernel_rfl) (by kernel_rfl) ?_
  refine GmT.done (by kernel_rfl) ?_
  refine qT ?_
  refine CodT.ret ?_
  have hI := hI.drop
  have e := someS h0
  subst e
  refine qK [2, 3, 4] (S' := [(2, .string a0.x), (3, .string a0.rest), (4, .bool true)]) (by kernel_rfl) ?_
  exact post_ret (v := .tuple #[.string a0.x, .string a0.rest, .bool true]) (fun a ha => RunRes.run (vs := [.string a0.x, .string a0.rest, .bool true]) (.tmp (t := 2) (by kernel_rfl) (.tmp (t := 3) (by kernel_rfl) (.tmp (t := 4) (by kernel_rfl) .nil))) ha (by kernel_rfl)) ⟨rfl, hI⟩
/-- cenotaph/wire.GetText -/
theorem c47 (w0 w : World) (Z : Hp) (A : HP) (hI : Inv w0 Z w A) (a0 : ByteArray) (a1 : Int) (r : (ByteArray × ByteArray × Bool)) (h0 : wire_GetText a0 a1 = some r) :
  Calls prog 47 #[.string a0, iv a1] w (fun e w' => e = .returned (.tuple #[.string r.1, .string r.2.1, .bool r.2.2]) ∧ Inv w0 Z w' A) := by
 have e4 := calls_intro (R := (fun e w' => e = .returned (.tuple #[.string r.1, .string r.2.1, .bool r.2.2]) ∧ Inv w0 Z w' A)) (w := w) (args := [.string a0, iv a1]) (fn := Go.Proofs.Try.f47) 14 Go.Proofs.Try.func47 (by rfl) Go.Proofs.Try.ntmps47 (by kernel_rfl)
 refine e4 ?_
 clear e4
 unfold wire_GetText at h0
 refine cQ ?_
 refine cR [0, 1, 2] (by kernel_rfl) ?_
 refine oP (r := []) [0, 1, 2] (S' := [(0, .string a0), (1, iv a1)]) (by kernel_rfl) ?_
 refine oD ?_
 refine qT ?_
 refine cQ ?_
 refine cR [0, 1, 2, 3, 4, 5, 6, 7, 8, 9] (by kernel_rfl) ?_
 refine oP (r := [2, 3, 4, 5, 6, 7, 8, 9]) [0, 1] (S' := [(7, .string a0), (8, iv a1)]) (by kernel_rfl) ?_
 obtain ⟨y2, hc1, h0⟩ := bindS h0
 try dsimp only at h0
 refine oC (Does.call (d := some 9) (n := 62) (vs := [.string a0, iv a1]) (by kernel_rfl) en62 (c62 w0 w _ _ hI a0 a1 _ hc1) ?_)
 rintro e w ⟨rfl, hI⟩
 refine ⟨_, rfl, ?_⟩
 obtain ⟨⟨y4, y5, y6⟩, hc3, h0⟩ := bindS h0
 try dsimp only at h0
 refine oC (Does.call (d := some 10) (n := 63) (vs := [.agg (c_WireGot_string y2).toArray]) (by kernel_rfl) en63 (c63 w0 w _ _ hI y2 _ hc3) ?_)
 rintro e w ⟨rfl, hI⟩
 refine ⟨_, rfl, ?_⟩
 refine oP (r := []) [4, 5, 6, 7, 8, 9] (S' := [(4, .string y4), (5, .string y5), (6, .bool y6)]) (by kernel_rfl) ?_
 refine oD ?_
 refine qT ?_
 refine CodT.ret ?_
 have e := someS h0
 subst e
 refine qK [4, 5, 6] (S' := [(4, .string y4), (5, .string y5), (6, .bool y6)]) (by kernel_rfl) ?_
 exact post_ret (v := .tuple #[.string y4, .string y5, .bool y6]) (fun a ha => RunRes.run (vs := [.string y4, .string y5, .bool y6]) (.tmp (t := 4) (by kernel_rfl) (.tmp (t := 5) (by kernel_rfl) (.tmp (t := 6) (by kernel_rfl) .nil))) ha (by kernel_rfl)) ⟨rfl, hI⟩
/-- (cenotaph/wire.got[cenotaph/api.Digest]).parts -/
theorem c64 (w0 w : World) (Z : Hp) (A : HP) (hI : Inv w0 Z w A) (a0 : WireGot_api_Digest) (hl1 : a0.x.length = 32) (r : ((List Int) × ByteArray × Bool)) (h0 : wire_got_apiDigest_parts a0 = some r) :
  Calls prog 64 #[.agg (c_WireGot_api_Digest a0).toArray] w (fun e w' => e = .returned (.tuple #[.agg (cA (Value.int .u8) r.1).toArray, .string r.2.1, .bool r.2.2]) ∧ r.1.length = 32 ∧ Inv w0 Z w' A) := by
 have e4 := calls_intro (R := (fun e w' => e = .returned (.tuple #[.agg (cA (Value.int .u8) r.1).toArray, .string r.2.1, .bool r.2.2]) ∧ r.1.length = 32 ∧ Inv w0 Z w' A)) (w := w) (args := [.agg (c_WireGot_api_Digest a0).toArray]) (fn := Go.Proofs.Try.f64) 14 Go.Proofs.Try.func64 (by rfl) Go.Proofs.Try.ntmps64 (by kernel_rfl)
 refine e4 ?_
 clear e4
 unfold wire_got_apiDigest_parts at h0
 refine cQ ?_
 refine cR [0, 1, 2, 3] (by kernel_rfl) ?_
 refine oC (Does.boxL (d := 1) (T := 110) (v := .agg (c_WireGot_api_Digest a0).toArray) (c_WireGot_api_Digest a0) (by kernel_rfl) hI (by kernel_rfl) ?_)
 intro b2 w hI
 refine oC (Does.allocL (d := 2) (T := 29) (cA (Value.int .u8) (List.replicate 32 (0 : Int))) (by kernel_rfl) ty29 hI (by kernel_rfl) ?_)
 intro b3 w hI
 refine oP (r := []) [2, 3] (S' := [(1, pb b2), (2, pb b3)]) (by kernel_rfl) ?_
 refine oD ?_
 refine qT ?_
 refine cQ ?_
 refine cQ ?_
 refine cR [0, 1, 2] (by kernel_rfl) ?_
 refine oP (r := [1, 2]) [0] (S' := [(1, pb b2), (2, pb b3), (6, .pointer (some ⟨b2, 33, none⟩))]) (by kernel_rfl) ?_
 refine oC (Does.yi (Yl.load (d := 7) (T := 4) (v := .bool a0.ok) (by kernel_rfl) (ldB ty4 (l := c_WireGot_api_Digest a0) (o := 33) (v := .bool a0.ok) (pick2 _ _ _) (seg_get [cA (Value.int .u8) a0.x, ([.string a0.rest] : LV), ([.bool a0.ok] : LV)] 2 (by simp [c_WireGot_api_Digest, cA_length, hl1]) (by simp [c_WireGot_api_Digest, cA_length, hl1]) rfl))) hI ?_)
 refine oP (r := []) [2] (S' := [(1, pb b2), (2, pb b3), (8, .bool (!a0.ok))]) (by kernel_rfl) ?_
 refine oD ?_
 refine qT ?_
 by_cases hb4 : (!a0.ok) = true
 ·
  rw [if_pos hb4] at h0
  refine CodT.yes' (b := !a0.ok) (by kernel_rfl) hb4 ?_
  refine cQ ?_
  refine cR [0] (by kernel_rfl) ?_
  refine oC (Does.allocL (d := 5) (T := 29) (cA (Value.int .u8) (List.replicate 32 (0 : Int))) (by kernel_rfl) ty29 hI (by kernel_rfl) ?_)
  intro b5 w hI
  refine oD ?_
  refine qT ?_
  refine cQ ?_
  refine cR [0, 1, 2, 3] (by kernel_rfl) ?_
  refine oC (Does.yi (Yl.load (d := 9) (T := 29) (v := .agg (cA (Value.int .u8) (List.replicate 32 (0 : Int))).toArray) (by kernel_rfl) (ldBN ty29 (l := cA (Value.int .u8) (List.replicate 32 (0 : Int))) (o := 0) (cs := cA (Value.int .u8) (List.replicate 32 (0 : Int))) (ent_refl _) ((cA_length _ _).trans (by kernel_rfl)) (whole _ _ ((cA_length _ _).trans (by kernel_rfl))))) hI ?_)
  have hI := hI.mono (pick2 _ _ _)
  refine oC (Does.storeAll (T := 29) (b := b3) (n := 32) (xs := (List.replicate 32 (0 : Int))) (ys := (List.replicate 32 (0 : Int))) (by kernel_rfl) ty29 hI (fun _ => rfl) (by kernel_rfl) (by kernel_rfl) ?_)
  intro w hI
  refine oP (r := []) [2, 3] (S' := [(2, pb b3), (3, .string (⟨#[]⟩ : ByteArray)), (4, .bool false)]) (by kernel_rfl) ?_
  refine oD ?_
  refine qT ?_
  refine CodT.ret ?_
  refine Qn.ret_then ?_
  have hL6 := (ldBN ty29 (l := cA (Value.int .u8) (List.replicate 32 (0 : Int))) (o := 0) (cs := cA (Value.int .u8) (List.replicate 32 (0 : Int))) (ent_refl _) ((cA_length _ _).trans (by kernel_rfl)) (whole _ _ ((cA_length _ _).trans (by kernel_rfl)))) w hI
  have hI := hI.drop
  have hI := hI.drop
  have hI := hI.drop
  have e := someS h0
  subst e
  refine qK [2, 3, 4] (S' := [(2, pb b3), (3, .string (⟨#[]⟩ : ByteArray)), (4, .bool false)]) (by kernel_rfl) ?_
  exact post_ret (v := .tuple #[.agg (cA (Value.int .u8) (List.replicate 32 (0 : Int))).toArray, .string (⟨#[]⟩ : ByteArray), .bool false]) (fun a ha => RunRes.run (vs := [.agg (cA (Value.int .u8) (List.replicate 32 (0 : Int))).toArray, .string (⟨#[]⟩ : ByteArray), .bool false]) (.cell (t := 2) (T := 29) (ad := ⟨b3, 0, none⟩) (by kernel_rfl) hL6 (.tmp (t := 3) (by kernel_rfl) (.tmp (t := 4) (by kernel_rfl) .nil))) ha (by kernel_rfl)) ⟨rfl, (by kernel_rfl), hI⟩
 ·
  rw [if_neg hb4] at h0
  refine CodT.no' (b := !a0.ok) (by kernel_rfl) (by simpa using hb4) ?_
  refine CodT.skip ?_
  refine qT ?_
  refine cQ ?_
  refine CodT.drawC (n := 7) (B := (star (pt b2 (.cells (c_WireGot_api_Digest a0).toArray 110 (0, 0))) A)) [] (by kernel_rfl) (by kernel_rfl) hI ?_
  intro w hI
  refine GmT.p' 0 10 (pb b2) (by kernel_rfl) (by kernel_rfl) ?_
  refine GmT.p' 2 12 (.pointer (some ⟨b2, 32, none⟩)) (by kernel_rfl) (by kernel_rfl) ?_
  have hC := hI
  have hC := hC.drop
  refine GmT.r (i := 1) 2 (by kernel_rfl) (by kernel_rfl) (Yl.load (d := 11) (T := 29) (v := .agg (cA (Value.int .u8) a0.x).toArray) (by kernel_rfl) (ldBN ty29 (l := c_WireGot_api_Digest a0) (o := 0) (cs := cA (Value.int .u8) a0.x) (ent_refl _) ((cA_length _ _).trans hl1) (seg_take [cA (Value.int .u8) a0.x, ([.string a0.rest] : LV), ([.bool a0.ok] : LV)] 0 1 (by simp [c_WireGot_api_Digest, cA_length, hl1]) (by simp [c_WireGot_api_Digest, cA_length, hl1]) (by simp [c_WireGot_api_Digest, cA_length, hl1]) (by simp [c_WireGot_api_Digest, cA_length, hl1])))) hC ?_
  have hC := hI
  have hC := hC.drop
  refine GmT.r (i := 3) 2 (by kernel_rfl) (by kernel_rfl) (Yl.load (d := 13) (T := 9) (v := .string a0.rest) (by kernel_rfl) (ldB ty9 (l := c_WireGot_api_Digest a0) (o := 32) (v := .string a0.rest) (ent_refl _) (seg_get [cA (Value.int .u8) a0.x, ([.string a0.rest] : LV), ([.bool a0.ok] : LV)] 1 (by simp [c_WireGot_api_Digest, cA_length, hl1]) (by simp [c_WireGot_api_Digest, cA_length, hl1]) rfl))) hC ?_
  refine GmT.o (i := 4) (by kernel_rfl) (Does.storeAll (T := 29) (b := b3) (n := 32) (xs := (List.replicate 32 (0 : Int))) (ys := a0.x) (by kernel_rfl) ty29 hI (fun _ => rfl) (by kernel_rfl) hl1 ?_)
  intro w hI
  have hC := hI
  have hC := hC.drop
  refine ⟨fun _ _ => hC, ?_⟩
  refine GmT.p' 5 3 (.string a0.rest) (by kernel_rfl) (by kernel_rfl) ?_
  refine GmT.p' 6 4 (.bool true) (by kernel_rfl) (by kernel_rfl) ?_
  refine GmT.done (by kernel_rfl) ?_
  refine qT ?_
  refine CodT.ret ?_
  have hL7 := (ldBN ty29 (l := cA (Value.int .u8) a0.x) (o := 0) (cs := cA (Value.int .u8) a0.x) (ent_refl _) ((cA_length _ _).trans hl1) (whole _ _ ((cA_length _ _).trans hl1))) w hI
  have hI := hI.drop
  have hI := hI.drop
  have e := someS h0
  subst e
  refine qK [2, 3, 4] (S' := [(2, pb b3), (3, .string a0.rest), (4, .bool true)]) (by kernel_rfl) ?_
  exact post_ret (v := .tuple #[.agg (cA (Value.int .u8) a0.x).toArray, .string a0.rest, .bool true]) (fun a ha => RunRes.run (vs := [.agg (cA (Value.int .u8) a0.x).toArray, .string a0.rest, .bool true]) (.cell (t := 2) (T := 29) (ad := ⟨b3, 0, none⟩) (by kernel_rfl) hL7 (.tmp (t := 3) (by kernel_rfl) (.tmp (t := 4) (by kernel_rfl) .nil))) ha (by kernel_rfl)) ⟨rfl, hl1, hI⟩
/-- cenotaph/wire.GetSum -/
theorem c48 (w0 w : World) (Z : Hp) (A : HP) (hI : Inv w0 Z w A) (a0 : ByteArray) (r : ((List Int) × ByteArray × Bool)) (h0 : wire_GetSum a0 = some r) :
  Calls prog 48 #[.string a0] w (fun e w' => e = .returned (.tuple #[.agg (cA (Value.int .u8) r.1).toArray, .string r.2.1, .bool r.2.2]) ∧ r.1.length = 32 ∧ Inv w0 Z w' A) := by
 have e4 := calls_intro (R := (fun e w' => e = .returned (.tuple #[.agg (cA (Value.int .u8) r.1).toArray, .string r.2.1, .bool r.2.2]) ∧ r.1.length = 32 ∧ Inv w0 Z w' A)) (w := w) (args := [.string a0]) (fn := Go.Proofs.Try.f48) 25 Go.Proofs.Try.func48 (by rfl) Go.Proofs.Try.ntmps48 (by kernel_rfl)
 refine e4 ?_
 clear e4
 unfold wire_GetSum at h0
 refine cQ ?_
 refine cR [0, 1, 2] (by kernel_rfl) ?_
 refine oC (Does.allocL (d := 2) (T := 29) (cA (Value.int .u8) (List.replicate 32 (0 : Int))) (by kernel_rfl) ty29 hI (by kernel_rfl) ?_)
 intro b1 w hI
 refine oP (r := []) [1, 2] (S' := [(0, .string a0), (2, pb b1)]) (by kernel_rfl) ?_
 refine oD ?_
 refine qT ?_
 refine cQ ?_
 refine cQ ?_
 refine cR [0, 1, 2] (by kernel_rfl) ?_
 refine oP (r := []) [0, 1, 2] (S' := [(0, .string a0), (2, pb b1), (7, .bool (decide ((a0.size : Int) < 32)))]) (by kernel_rfl) ?_
 refine oD ?_
 refine qT ?_
 by_cases hb2 : (decide ((a0.size : Int) < 32)) = true
 ·
  rw [if_pos hb2] at h0
  refine CodT.yes' (b := decide ((a0.size : Int) < 32)) (by kernel_rfl) hb2 ?_
  refine cQ ?_
  refine cR [0, 1, 2, 3, 4, 5, 6, 7] (by kernel_rfl) ?_
  refine oP (r := [1, 2, 3, 4, 5, 6, 7]) [0] (S' := [(2, pb b1), (8, .agg (c_WireGot_api_Digest (WireGot_api_Digest.mk (List.replicate 32 (0 : Int)) (⟨#[]⟩ : ByteArray) false)).toArray)]) (by kernel_rfl) ?_
  obtain ⟨⟨y4, y6, y7⟩, hc3, h0⟩ := bindS h0
  try dsimp only at h0
  refine oC (Does.call (d := some 9) (n := 64) (vs := [.agg (c_WireGot_api_Digest (WireGot_api_Digest.mk (List.replicate 32 (0 : Int)) (⟨#[]⟩ : ByteArray) false)).toArray]) (by kernel_rfl) en64 (c64 w0 w _ _ hI (WireGot_api_Digest.mk (List.replicate 32 (0 : Int)) (⟨#[]⟩ : ByteArray) false) (by kernel_rfl) _ hc3) ?_)
  rintro e w ⟨rfl, hl5, hI⟩
  refine ⟨_, rfl, ?_⟩
  refine oP (r := [5, 6, 7]) [2, 3, 4] (S' := [(2, pb b1), (10, .agg (cA (Value.int .u8) y4).toArray), (11, .string y6), (12, .bool y7)]) (by kernel_rfl) ?_
  refine oC (Does.storeAll (T := 29) (b := b1) (n := 32) (xs := (List.replicate 32 (0 : Int))) (ys := y4) (by kernel_rfl) ty29 hI (fun _ => rfl) (by kernel_rfl) hl5 ?_)
  intro w hI
  refine oP (r := []) [6, 7] (S' := [(2, pb b1), (3, .string y6), (4, .bool y7)]) (by kernel_rfl) ?_
  refine oD ?_
  refine qT ?_
  refine CodT.ret ?_
  refine Qn.ret_then ?_
  have hL8 := (ldBN ty29 (l := cA (Value.int .u8) y4) (o := 0) (cs := cA (Value.int .u8) y4) (ent_refl _) ((cA_length _ _).trans hl5) (whole _ _ ((cA_length _ _).trans hl5))) w hI
  have hI := hI.drop
  have e := someS h0
  subst e
  refine qK [2, 3, 4] (S' := [(2, pb b1), (3, .string y6), (4, .bool y7)]) (by kernel_rfl) ?_
  exact post_ret (v := .tuple #[.agg (cA (Value.int .u8) y4).toArray, .string y6, .bool y7]) (fun a ha => RunRes.run (vs := [.agg (cA (Value.int .u8) y4).toArray, .string y6, .bool y7]) (.cell (t := 2) (T := 29) (ad := ⟨b1, 0, none⟩) (by kernel_rfl) hL8 (.tmp (t := 3) (by kernel_rfl) (.tmp (t := 4) (by kernel_rfl) .nil))) ha (by kernel_rfl)) ⟨rfl, hl5, hI⟩
 ·
  rw [if_neg hb2] at h0
  refine CodT.no' (b := decide ((a0.size : Int) < 32)) (by kernel_rfl) (by simpa using hb2) ?_
  refine CodT.skip ?_
  refine qT ?_
  refine cQ ?_
  refine CodT.drawI (n := 15) [12] (by kernel_rfl) (by kernel_rfl) hI ?_
  intro w hI
  refine GmT.p' 0 13 (.string a0) (by kernel_rfl) (by kernel_rfl) ?_
  refine GmT.p' 5 18 (.string a0) (by kernel_rfl) (by kernel_rfl) ?_
  obtain ⟨hg9, h0⟩ := guardS h0
  refine GmT.r (i := 1) 2 (by kernel_rfl) (by kernel_rfl) (Yl.sliceStr01 (d := 14) (T := 9) (s := a0) (hi := 32) (by kernel_rfl) Go.Proofs.Try.underlying9 hg9) hI ?_
  obtain ⟨hg10, h0⟩ := guardS h0
  refine GmT.r (i := 6) 2 (by kernel_rfl) (by kernel_rfl) (Yl.sliceStr10 (d := 19) (T := 9) (s := a0) (lo := 32) (by kernel_rfl) Go.Proofs.Try.underlying9 hg10) hI ?_
  obtain ⟨hg11, h0⟩ := guardS h0
  refine GmT.o (i := 2) (by kernel_rfl) (Does.s2b (d := 15) (src := 9) (dst := 45) (s := sx a0 0 32) (by kernel_rfl) Go.Proofs.Try.underlying9 Go.Proofs.Try.underlying45 Go.Proofs.Try.underlying5 (Nat.le_trans hg11 (by decide)) hI ?_)
  intro A12 cp13 w hI
  have hC := hI
  have hC := hC.drop
  refine ⟨fun _ _ => hC, ?_⟩
  obtain ⟨hg14, h0⟩ := guardS h0
  obtain ⟨g15, hA16, hr17⟩ := ownS_all hI (by rw [hg14]; decide)
  refine GmT.o (i := 3) (by kernel_rfl) (Does.yi (Yl.arrPtr' (d := 16) (T := 29) (ad := ⟨g15, 0, none⟩) (c := cp13) (by kernel_rfl) Go.Proofs.Try.underlying29 hg14 hA16) hI ?_)
  refine ⟨fun _ h => h, ?_⟩
  refine GmT.o (i := 4) (by kernel_rfl) (Does.yi (Yl.load (d := 17) (T := 29) (v := .agg (cA (Value.int .u8) (byts (sx a0 0 32))).toArray) (by kernel_rfl) (ldRN ty29 (cs := cA (Value.int .u8) (byts (sx a0 0 32))) 0 (fun w hC => by rw [← flat_cI]; exact (fun w hC => hr17 w0 w _ hC) w hC) ((cA_length _ _).trans hg14) (whole _ _ ((cA_length _ _).trans hg14)))) hI ?_)
  refine ⟨fun _ h => h, ?_⟩
  refine GmT.o (i := 7) (by kernel_rfl) (Does.yi (Yl.buildB (d := 20) (T := 110) (ps := [(0, .agg (cA (Value.int .u8) (byts (sx a0 0 32))).toArray), (1, .string (sx a0 32 (a0.size : Int))), (2, .bool true)]) (cells := (c_WireGot_api_Digest (WireGot_api_Digest.mk (byts (sx a0 0 32)) (sx a0 32 (a0.size : Int)) true)).toArray) (by kernel_rfl) ((built_all (places := [(0, 32), (32, 1), (33, 1)]) (lens := [32, 1, 1]) (zs := [cA (Value.int .u8) (List.replicate 32 (0 : Int)), ([.string (⟨#[]⟩ : ByteArray)] : LV), ([.bool false] : LV)]) (fun _ => by kernel_rfl) (by kernel_rfl) [(0, .agg (cA (Value.int .u8) (byts (sx a0 0 32))).toArray, cA (Value.int .u8) (byts (sx a0 0 32))), (1, .string (sx a0 32 (a0.size : Int)), ([.string (sx a0 32 (a0.size : Int))] : LV)), (2, .bool true, ([.bool true] : LV))] (List.forall_mem_cons.2 ⟨⟨rfl, congrArg some ((cA_length _ _).trans hg14).symm, congrArg (fun n => some (0, n)) ((cA_length _ _).trans hg14).symm⟩, (List.forall_mem_cons.2 ⟨⟨rfl, rfl, rfl⟩, (List.forall_mem_cons.2 ⟨⟨rfl, rfl, rfl⟩, (fun _ h => by cases h)⟩)⟩)⟩)).trans (by first | rfl | simp [c_WireGot_api_Digest]))) hI ?_)
  refine ⟨fun _ h => h, ?_⟩
  obtain ⟨⟨y19, y21, y22⟩, hc18, h0⟩ := bindS h0
  try dsimp only at h0
  refine GmT.o (i := 8) (by kernel_rfl) (Does.call (d := some 21) (n := 64) (vs := [.agg (c_WireGot_api_Digest (WireGot_api_Digest.mk (byts (sx a0 0 32)) (sx a0 32 (a0.size : Int)) true)).toArray]) (by kernel_rfl) en64 (c64 w0 w _ _ hI (WireGot_api_Digest.mk (byts (sx a0 0 32)) (sx a0 32 (a0.size : Int)) true) hg14 _ hc18) ?_)
  rintro e w ⟨rfl, hl20, hI⟩
  refine ⟨_, rfl, ?_⟩
  have hC := hI
  have hC := hC.drop
  refine ⟨fun _ _ => hC, ?_⟩
  refine GmT.p' 9 22 (.agg (cA (Value.int .u8) y19).toArray) (by kernel_rfl) (by kernel_rfl) ?_
  refine GmT.p' 10 23 (.string y21) (by kernel_rfl) (by kernel_rfl) ?_
  refine GmT.p' 11 24 (.bool y22) (by kernel_rfl) (by kernel_rfl) ?_
  have hI := hI.mono (pick2 _ _ _)
  refine GmT.o (i := 12) (by kernel_rfl) (Does.storeAll (T := 29) (b := b1) (n := 32) (xs := (List.replicate 32 (0 : Int))) (ys := y19) (by kernel_rfl) ty29 hI (fun _ => rfl) (by kernel_rfl) hl20 ?_)
  intro w hI
  refine ⟨fun h => absurd h (by decide), ?_⟩
  refine GmT.p' 13 3 (.string y21) (by kernel_rfl) (by kernel_rfl) ?_
  refine GmT.p' 14 4 (.bool y22) (by kernel_rfl) (by kernel_rfl) ?_
  refine GmT.done (by kernel_rfl) ?_
  refine qT ?_
  refine CodT.ret ?_
  have hL23 := (ldBN ty29 (l := cA (Value.int .u8) y19) (o := 0) (cs := cA (Value.int .u8) y19) (ent_refl _) ((cA_length _ _).trans hl20) (whole _ _ ((cA_length _ _).trans hl20))) w hI
  have hI := hI.drop
  have hI := hI.drop
  have e := someS h0
  subst e
  refine qK [2, 3, 4] (S' := [(2, pb b1), (3, .string y21), (4, .bool y22)]) (by kernel_rfl) ?_
  exact post_ret (v := .tuple #[.agg (cA (Value.int .u8) y19).toArray, .string y21, .bool y22]) (fun a ha => RunRes.run (vs := [.agg (cA (Value.int .u8) y19).toArray, .string y21, .bool y22]) (.cell (t := 2) (T := 29) (ad := ⟨b1, 0, none⟩) (by kernel_rfl) hL23 (.tmp (t := 3) (by kernel_rfl) (.tmp (t := 4) (by kernel_rfl) .nil))) ha (by kernel_rfl)) ⟨rfl, hl20, hI⟩
/-- cenotaph/event.get -/
theorem c31 (w0 w : World) (Z : Hp) (A : HP) (hI : Inv w0 Z w A) (a0 : Dyn66) (a1 : ByteArray) (r : (Dyn66 × ByteArray × Bool)) (h0 : event_get a0 a1 = some r) :
  Calls prog 31 #[dynV66 a0, .string a1] w (fun e w' => e = .returned (.tuple #[dynV66 r.1, .string r.2.1, .bool r.2.2]) ∧ Inv w0 Z w' A) := by
 have e4 := calls_intro (R := (fun e w' => e = .returned (.tuple #[dynV66 r.1, .string r.2.1, .bool r.2.2]) ∧ Inv w0 Z w' A)) (w := w) (args := [dynV66 a0, .string a1]) (fn := Go.Proofs.Try.f31) 53 Go.Proofs.Try.func31 (by rfl) Go.Proofs.Try.ntmps31 (by kernel_rfl)
 refine e4 ?_
 clear e4
 unfold event_get at h0
 refine cQ ?_
 refine cR [0, 1, 2] (by kernel_rfl) ?_
 refine oP (r := []) [0, 1, 2] (S' := [(0, dynV66 a0), (1, .string a1)]) (by kernel_rfl) ?_
 refine oD ?_
 refine qT ?_
 obtain ⟨r1, h1, h0⟩ := bindS h0
 refine CodT.meet (fun a w => .inr () = r1 ∧ Fr 53 [(1, .string a1)] a ∧ Inv w0 Z w A) ?_ ?_
 ·
  refine cQ ?_
  refine cR [0] (by kernel_rfl) ?_
  refine oP (r := []) [0] (S' := [(1, .string a1), (16, dynV66 a0)]) (by kernel_rfl) ?_
  refine oD ?_
  refine qT ?_
  refine CodT.block ?_
  refine cQ ?_
  refine cR [0, 1, 2] (by kernel_rfl) ?_
  rcases hd1 : a0 with _ | z2 | z3 | z4
  ·
   simp only [hd1] at h1
   refine oK [1, 16] (S' := [(1, .string a1), (16, .nilIface)]) (by (try simp only [hd1]); kernel_rfl) ?_
   refine oP (r := []) [0, 1, 2] (S' := [(1, .string a1), (16, .nilIface), (18, .bool false)]) (by kernel_rfl) ?_
   refine oD ?_
   refine qT ?_
   refine CodT.no (by kernel_rfl) ?_
   refine cQ ?_
   refine cR [0, 1, 2] (by kernel_rfl) ?_
   refine oP (r := []) [0, 1, 2] (S' := [(1, .string a1), (31, .bool false)]) (by kernel_rfl) ?_
   refine oD ?_
   refine qT ?_
   refine CodT.no (by kernel_rfl) ?_
   refine CodT.skip ?_
   refine Qn.block_normal ?_
   have e := someS h1
   subst e
   exact Qn.thenJ fun a ha => ⟨rfl, ha.keep [1] (by kernel_rfl), hI⟩
  ·
   simp only [hd1] at h1
   refine oK [1, 16] (S' := [(1, .string a1), (16, .iface 89 (iv z2))]) (by (try simp only [hd1]); kernel_rfl) ?_
   refine oP (r := []) [0, 1, 2] (S' := [(1, .string a1), (16, .iface 89 (iv z2)), (18, .bool false)]) (by kernel_rfl) ?_
   refine oD ?_
   refine qT ?_
   refine CodT.no (by kernel_rfl) ?_
   refine cQ ?_
   refine cR [0, 1, 2] (by kernel_rfl) ?_
   refine oP (r := []) [0, 1, 2] (S' := [(1, .string a1), (31, .bool false)]) (by kernel_rfl) ?_
   refine oD ?_
   refine qT ?_
   refine CodT.no (by kernel_rfl) ?_
   refine CodT.skip ?_
   refine Qn.block_normal ?_
   have e := someS h1
   subst e
   exact Qn.thenJ fun a ha => ⟨rfl, ha.keep [1] (by kernel_rfl), hI⟩
  ·
   simp only [hd1] at h1
   refine oK [1, 16] (S' := [(1, .string a1), (16, .iface 90 (.string z3))]) (by (try simp only [hd1]); kernel_rfl) ?_
   refine oP (r := []) [0, 1, 2] (S' := [(1, .string a1), (16, .iface 90 (.string z3)), (18, .bool true)]) (by kernel_rfl) ?_
   refine oD ?_
   refine qT ?_
   refine CodT.yes (by kernel_rfl) ?_
   refine cQ ?_
   refine cR [0, 1, 2, 3, 4, 5, 6, 7, 8] (by kernel_rfl) ?_
   refine oP (r := [1, 2, 3, 4, 5, 6, 7, 8]) [0] (S' := [(21, .string a1)]) (by kernel_rfl) ?_
   obtain ⟨⟨y6, y7, y8⟩, hc5, h1⟩ := bindS h1
   try dsimp only at h1
   refine oC (Does.call (d := some 22) (n := 47) (vs := [.string a1, iv 100]) (by kernel_rfl) en47 (c47 w0 w _ _ hI a1 100 _ hc5) ?_)
   rintro e w ⟨rfl, hI⟩
   refine ⟨_, rfl, ?_⟩
   refine oP (r := []) [2, 3, 4, 5, 6, 7, 8] (S' := [(7, .string y6), (8, .string y7), (9, .bool y8)]) (by kernel_rfl) ?_
   refine oD ?_
   refine qT ?_
   refine cQ ?_
   refine cR [0, 1, 2, 3, 4, 5, 6] (by kernel_rfl) ?_
   refine oP (r := []) [0, 1, 2, 3, 4, 5, 6] (S' := [(4, .iface 90 (.string y6)), (5, .string y7), (6, .bool y8)]) (by kernel_rfl) ?_
   refine oD ?_
   refine qT ?_
   refine CodT.ret ?_
   refine Qn.block_ret ?_
   refine Qn.ret_then ?_
   have e := someS h1
   subst e
   try dsimp only at h0
   have e := someS h0
   subst e
   refine qK [4, 5, 6] (S' := [(4, .iface 90 (.string y6)), (5, .string y7), (6, .bool y8)]) (by kernel_rfl) ?_
   exact post_ret (v := .tuple #[.iface 90 (.string y6), .string y7, .bool y8]) (fun a ha => RunRes.run (vs := [.iface 90 (.string y6), .string y7, .bool y8]) (.tmp (t := 4) (by kernel_rfl) (.tmp (t := 5) (by kernel_rfl) (.tmp (t := 6) (by kernel_rfl) .nil))) ha (by kernel_rfl)) ⟨rfl, hI⟩
  ·
   simp only [hd1] at h1
   obtain ⟨hg9, h1⟩ := guardS h1
   refine oK [1, 16] (S' := [(1, .string a1), (16, .iface 91 (.agg (cA (Value.int .u8) z4).toArray))]) (by (try simp only [hd1]); kernel_rfl) ?_
   refine oP (r := []) [0, 1, 2] (S' := [(1, .string a1), (16, .iface 91 (.agg (cA (Value.int .u8) z4).toArray)), (18, .bool false)]) (by kernel_rfl) ?_
   refine oD ?_
   refine qT ?_
   refine CodT.no (by kernel_rfl) ?_
   refine cQ ?_
   refine cR [0, 1, 2] (by kernel_rfl) ?_
   refine oP (r := []) [0, 1, 2] (S' := [(1, .string a1), (31, .bool true)]) (by kernel_rfl) ?_
   refine oD ?_
   refine qT ?_
   refine CodT.yes (by kernel_rfl) ?_
   refine cQ ?_
   refine cR [0, 1, 2, 3, 4, 5, 6, 7, 8, 9] (by kernel_rfl) ?_
   refine oP (r := [1, 2, 3, 4, 5, 6, 7, 8, 9]) [0] (S' := [(34, .string a1)]) (by kernel_rfl) ?_
   obtain ⟨⟨y11, y13, y14⟩, hc10, h1⟩ := bindS h1
   try dsimp only at h1
   refine oC (Does.call (d := some 35) (n := 48) (vs := [.string a1]) (by kernel_rfl) en48 (c48 w0 w _ _ hI a1 _ hc10) ?_)
   rintro e w ⟨rfl, hl12, hI⟩
   refine ⟨_, rfl, ?_⟩
   refine oP (r := [6, 7, 8, 9]) [2, 3, 4, 5] (S' := [(36, .agg (cA (Value.int .u8) y11).toArray), (37, .string y13), (38, .bool y14)]) (by kernel_rfl) ?_
   refine oC (Does.allocL (d := 10) (T := 29) (cA (Value.int .u8) (List.replicate 32 (0 : Int))) (by kernel_rfl) ty29 hI (by kernel_rfl) ?_)
   intro b15 w hI
   refine oC (Does.storeAll (T := 29) (b := b15) (n := 32) (xs := (List.replicate 32 (0 : Int))) (ys := y11) (by kernel_rfl) ty29 hI (fun _ => rfl) (by kernel_rfl) hl12 ?_)
   intro w hI
   refine oP (r := []) [8, 9] (S' := [(10, pb b15), (11, .string y13), (12, .bool y14)]) (by kernel_rfl) ?_
   refine oD ?_
   refine qT ?_
   refine cQ ?_
   refine cR [0, 1, 2, 3, 4, 5, 6] (by kernel_rfl) ?_
   refine oC (Does.yi (Yl.load (d := 39) (T := 29) (v := .agg (cA (Value.int .u8) y11).toArray) (by kernel_rfl) (ldBN ty29 (l := cA (Value.int .u8) y11) (o := 0) (cs := cA (Value.int .u8) y11) (ent_refl _) ((cA_length _ _).trans hl12) (whole _ _ ((cA_length _ _).trans hl12)))) hI ?_)
   refine oP (r := []) [1, 2, 3, 4, 5, 6] (S' := [(4, .iface 91 (.agg (cA (Value.int .u8) y11).toArray)), (5, .string y13), (6, .bool y14)]) (by kernel_rfl) ?_
   refine oD ?_
   refine qT ?_
   refine CodT.ret ?_
   refine Qn.block_ret ?_
   refine Qn.ret_then ?_
   have hI := hI.drop
   have e := someS h1
   subst e
   try dsimp only at h0
   have e := someS h0
   subst e
   refine qK [4, 5, 6] (S' := [(4, .iface 91 (.agg (cA (Value.int .u8) y11).toArray)), (5, .string y13), (6, .bool y14)]) (by kernel_rfl) ?_
   exact post_ret (v := .tuple #[.iface 91 (.agg (cA (Value.int .u8) y11).toArray), .string y13, .bool y14]) (fun a ha => RunRes.run (vs := [.iface 91 (.agg (cA (Value.int .u8) y11).toArray), .string y13, .bool y14]) (.tmp (t := 4) (by kernel_rfl) (.tmp (t := 5) (by kernel_rfl) (.tmp (t := 6) (by kernel_rfl) .nil))) ha (by kernel_rfl)) ⟨rfl, hI⟩
 ·
  rintro a w ⟨rfl, ha, hI⟩
  try dsimp only at h0
  refine CodT.of ?_ ha
  refine cQ ?_
  refine cR [0, 1, 2, 3, 4, 5, 6, 7, 8] (by kernel_rfl) ?_
  refine oP (r := [1, 2, 3, 4, 5, 6, 7, 8]) [0] (S' := [(44, .string a1)]) (by kernel_rfl) ?_
  obtain ⟨⟨y17, y18, y19⟩, hc16, h0⟩ := bindS h0
  try dsimp only at h0
  refine oC (Does.call (d := some 45) (n := 28) (vs := [.string a1]) (by kernel_rfl) en28 (c28 w0 w _ _ hI a1 _ hc16) ?_)
  rintro e w ⟨rfl, hI⟩
  refine ⟨_, rfl, ?_⟩
  refine oP (r := []) [2, 3, 4, 5, 6, 7, 8] (S' := [(13, iv y17), (14, .string y18), (15, .bool y19)]) (by kernel_rfl) ?_
  refine oD ?_
  refine qT ?_
  refine cQ ?_
  refine cR [0, 1, 2, 3, 4, 5, 6] (by kernel_rfl) ?_
  refine oP (r := []) [0, 1, 2, 3, 4, 5, 6] (S' := [(4, .iface 89 (iv y17)), (5, .string y18), (6, .bool y19)]) (by kernel_rfl) ?_
  refine oD ?_
  refine qT ?_
  refine CodT.ret ?_
  have e := someS h0
  subst e
  refine qK [4, 5, 6] (S' := [(4, .iface 89 (iv y17)), (5, .string y18), (6, .bool y19)]) (by kernel_rfl) ?_
  exact post_ret (v := .tuple #[.iface 89 (iv y17), .string y18, .bool y19]) (fun a ha => RunRes.run (vs := [.iface 89 (iv y17), .string y18, .bool y19]) (.tmp (t := 4) (by kernel_rfl) (.tmp (t := 5) (by kernel_rfl) (.tmp (t := 6) (by kernel_rfl) .nil))) ha (by kernel_rfl)) ⟨rfl, hI⟩
/-- cenotaph/event.Get -/
theorem c19 (w0 w : World) (Z : Hp) (A : HP) (hI : Inv w0 Z w A) (a0 : ByteArray) (r : (ApiEvent × ByteArray × Bool)) (h0 : event_Get a0 = some r) :
  Calls prog 19 #[.string a0] w (fun e w' => e = .returned (.tuple #[.agg (c_ApiEvent r.1).toArray, .string r.2.1, .bool r.2.2]) ∧ r.1.Sum.length = 32 ∧ Inv w0 Z w' A) := by
 have e4 := calls_intro (R := (fun e w' => e = .returned (.tuple #[.agg (c_ApiEvent r.1).toArray, .string r.2.1, .bool r.2.2]) ∧ r.1.Sum.length = 32 ∧ Inv w0 Z w' A)) (w := w) (args := [.string a0]) (fn := Go.Proofs.Try.f19) 62 Go.Proofs.Try.func19 (by rfl) Go.Proofs.Try.ntmps19 (by kernel_rfl)
 refine e4 ?_
 clear e4
 unfold event_Get at h0
 refine cQ ?_
 refine cR [0, 1, 2] (by kernel_rfl) ?_
 refine oC (Does.allocL (d := 2) (T := 42) (c_ApiEvent (ApiEvent.mk 0 0 (⟨#[]⟩ : ByteArray) 0 0 (List.replicate 32 (0 : Int)))) (by kernel_rfl) ty42 hI (by kernel_rfl) ?_)
 intro b1 w hI
 refine oP (r := []) [1, 2] (S' := [(0, .string a0), (2, pb b1)]) (by kernel_rfl) ?_
 refine oD ?_
 refine qT ?_
 refine cQ ?_
 refine cR [0, 1, 2, 3, 4, 5, 6, 7, 8] (by kernel_rfl) ?_
 refine oP (r := [1, 2, 3, 4, 5, 6, 7, 8]) [0] (S' := [(2, pb b1), (13, .string a0)]) (by kernel_rfl) ?_
 obtain ⟨⟨y3, y4, y5⟩, hc2, h0⟩ := bindS h0
 try dsimp only at h0
 refine oC (Does.call (d := some 14) (n := 28) (vs := [.string a0]) (by kernel_rfl) en28 (c28 w0 w _ _ hI a0 _ hc2) ?_)
 rintro e w ⟨rfl, hI⟩
 refine ⟨_, rfl, ?_⟩
 refine oP (r := []) [2, 3, 4, 5, 6, 7, 8] (S' := [(2, pb b1), (5, iv y3), (6, .string y4), (7, .bool y5)]) (by kernel_rfl) ?_
 refine oD ?_
 refine qT ?_
 refine cQ ?_
 obtain ⟨r1, h1, h0⟩ := bindS h0
 refine CodT.meet (fun a w => ∃ (x6 : Bool), x6 = r1 ∧ Fr 62 [(2, pb b1), (5, iv y3), (6, .string y4), (25, .bool x6)] a ∧ Inv w0 Z w (star (pt b1 (.cells (c_ApiEvent (ApiEvent.mk 0 0 (⟨#[]⟩ : ByteArray) 0 0 (List.replicate 32 (0 : Int)))).toArray 42 (0, 0))) A)) ?_ ?_
 ·
  refine cR [0, 1, 2, 3, 4, 5, 6, 7] (by kernel_rfl) ?_
  refine oP (r := [3, 4, 5, 6, 7]) [0, 1, 2] (S' := [(2, pb b1), (5, iv y3), (6, .string y4), (20, .bool (!y5))]) (by kernel_rfl) ?_
  by_cases hb7 : (!y5) = true
  ·
   rw [if_pos hb7] at h1
   refine oK [2, 5, 6, 20] (S' := [(2, pb b1), (5, iv y3), (6, .string y4), (20, .bool true)]) (by simp only [hb7]; kernel_rfl) ?_
   refine oP (r := []) [3, 4, 5, 6, 7] (S' := [(2, pb b1), (5, iv y3), (6, .string y4), (25, .bool true)]) (by kernel_rfl) ?_
   refine oD ?_
   have e := someS h1
   subst e
   exact Qn.thenJ fun a ha => ⟨true, rfl, ha.keep [2, 5, 6, 25] (by kernel_rfl), hI⟩
  ·
   rw [if_neg hb7] at h1
   have hb7 : (!y5) = false := by simpa using hb7
   refine oK [2, 5, 6, 20] (S' := [(2, pb b1), (5, iv y3), (6, .string y4), (20, .bool false)]) (by simp only [hb7]; kernel_rfl) ?_
   refine oP (r := [4, 5, 6, 7]) [3] (S' := [(2, pb b1), (5, iv y3), (6, .string y4), (20, .bool false), (21, iv y3)]) (by kernel_rfl) ?_
   obtain ⟨y9, hc8, h1⟩ := bindS h1
   try dsimp only at h1
   refine oC (Does.call (d := some 22) (n := 29) (vs := []) (by kernel_rfl) en29 (c29 w0 w _ _ hI _ hc8) ?_)
   rintro e w ⟨rfl, hl10, hI⟩
   refine ⟨_, rfl, ?_⟩
   refine oP (r := []) [5, 6, 7] (S' := [(2, pb b1), (5, iv y3), (6, .string y4), (25, .bool (decide (y3 ≥ 8)))]) (by kernel_rfl) ?_
   refine oD ?_
   have e := someS h1
   subst e
   exact Qn.thenJ fun a ha => ⟨decide (y3 ≥ 8), rfl, ha.keep [2, 5, 6, 25] (by kernel_rfl), hI⟩
 ·
  rintro a w ⟨x6, rfl, ha, hI⟩
  try dsimp only at h0
  refine CodT.of ?_ ha
  by_cases hb11 : x6 = true
  ·
   rw [if_pos hb11] at h0
   refine CodT.yes' (b := x6) (by kernel_rfl) hb11 ?_
   refine cQ ?_
   refine cR [0, 1, 2, 3] (by kernel_rfl) ?_
   refine oP (r := [1, 2, 3]) [0] (S' := [(2, pb b1), (26, .agg (c_ApiEvent (ApiEvent.mk 0 0 (⟨#[]⟩ : ByteArray) 0 0 (List.replicate 32 (0 : Int)))).toArray)]) (by kernel_rfl) ?_
   refine oC (dS (T := 42) (b := b1) (o := 0) (v := .agg (c_ApiEvent (ApiEvent.mk 0 0 (⟨#[]⟩ : ByteArray) 0 0 (List.replicate 32 (0 : Int)))).toArray) (l := c_ApiEvent (ApiEvent.mk 0 0 (⟨#[]⟩ : ByteArray) 0 0 (List.replicate 32 (0 : Int)))) (vs := c_ApiEvent (ApiEvent.mk 0 0 (⟨#[]⟩ : ByteArray) 0 0 (List.replicate 32 (0 : Int)))) (L' := c_ApiEvent (ApiEvent.mk 0 0 (⟨#[]⟩ : ByteArray) 0 0 (List.replicate 32 (0 : Int)))) (by kernel_rfl) ty42 hI (by kernel_rfl) (len_ApiEvent _ (by kernel_rfl)) (by rw [(len_ApiEvent _ (by kernel_rfl))]; kernel_rfl) (ones_app _ _ (by kernel_rfl) (ones_cA _)) (lset_all _ _ (Eq.trans (len_ApiEvent _ (by kernel_rfl)) (Eq.symm (len_ApiEvent _ (by kernel_rfl))))) ?_)
   intro w hI
   refine oP (r := []) [2, 3] (S' := [(2, pb b1), (3, .string (⟨#[]⟩ : ByteArray)), (4, .bool false)]) (by kernel_rfl) ?_
   refine oD ?_
   refine qT ?_
   refine CodT.ret ?_
   refine Qn.ret_then ?_
   have hL12 := (ldBN ty42 (l := c_ApiEvent (ApiEvent.mk 0 0 (⟨#[]⟩ : ByteArray) 0 0 (List.replicate 32 (0 : Int)))) (o := 0) (cs := c_ApiEvent (ApiEvent.mk 0 0 (⟨#[]⟩ : ByteArray) 0 0 (List.replicate 32 (0 : Int)))) (ent_refl _) (len_ApiEvent _ (by kernel_rfl)) (whole _ _ (len_ApiEvent _ (by kernel_rfl)))) w hI
   have hI := hI.drop
   have e := someS h0
   subst e
   refine qK [2, 3, 4] (S' := [(2, pb b1), (3, .string (⟨#[]⟩ : ByteArray)), (4, .bool false)]) (by kernel_rfl) ?_
   exact post_ret (v := .tuple #[.agg (c_ApiEvent (ApiEvent.mk 0 0 (⟨#[]⟩ : ByteArray) 0 0 (List.replicate 32 (0 : Int)))).toArray, .string (⟨#[]⟩ : ByteArray), .bool false]) (fun a ha => RunRes.run (vs := [.agg (c_ApiEvent (ApiEvent.mk 0 0 (⟨#[]⟩ : ByteArray) 0 0 (List.replicate 32 (0 : Int)))).toArray, .string (⟨#[]⟩ : ByteArray), .bool false]) (.cell (t := 2) (T := 42) (ad := ⟨b1, 0, none⟩) (by kernel_rfl) hL12 (.tmp (t := 3) (by kernel_rfl) (.tmp (t := 4) (by kernel_rfl) .nil))) ha (by kernel_rfl)) ⟨rfl, (by kernel_rfl), hI⟩
  ·
   rw [if_neg hb11] at h0
   refine CodT.no' (b := x6) (by kernel_rfl) (by simpa using hb11) ?_
   refine CodT.skip ?_
   refine qT ?_
   refine cQ ?_
   refine cR [0, 1] (by kernel_rfl) ?_
   refine oP (r := []) [0, 1] (S' := [(2, pb b1), (6, .string y4), (8, iv y3)]) (by kernel_rfl) ?_
   refine oD ?_
   refine qT ?_
   refine cQ ?_
   refine cR [0, 1, 2, 3] (by kernel_rfl) ?_
   refine oP (r := [2, 3]) [0, 1] (S' := [(2, pb b1), (6, .string y4), (8, iv y3), (29, .agg (c_ApiEvent (ApiEvent.mk y3 0 (⟨#[]⟩ : ByteArray) 0 0 (List.replicate 32 (0 : Int)))).toArray)]) (by kernel_rfl) ?_
   obtain ⟨y14, hc13, h0⟩ := bindS h0
   try dsimp only at h0
   refine oC (Does.call (d := some 30) (n := 30) (vs := [.agg (c_ApiEvent (ApiEvent.mk y3 0 (⟨#[]⟩ : ByteArray) 0 0 (List.replicate 32 (0 : Int)))).toArray]) (by kernel_rfl) en30 (c30 w0 w _ _ hI (ApiEvent.mk y3 0 (⟨#[]⟩ : ByteArray) 0 0 (List.replicate 32 (0 : Int))) (by kernel_rfl) _ hc13) ?_)
   rintro e w ⟨A15, cp16, rfl, hI⟩
   refine ⟨_, rfl, ?_⟩
   refine oP (r := []) [3] (S' := [(2, pb b1), (6, .string y4), (8, iv y3), (9, .slice A15 y14.length cp16)]) (by kernel_rfl) ?_
   refine oD ?_
   refine qT ?_
   refine cQ ?_
   refine cQ ?_
   refine cR [0, 1, 2] (by kernel_rfl) ?_
   refine oP (r := []) [0, 1, 2] (S' := [(2, pb b1), (6, .string y4), (8, iv y3), (9, .slice A15 y14.length cp16), (32, iv (y14.length : Int)), (33, iv 0)]) (by kernel_rfl) ?_
   refine oD ?_
   refine qT ?_
   obtain ⟨r1, h1, h0⟩ := bindS h0
   refine CodT.meet1 (fun a w => ∃ (x17 : ByteArray) (x18 : (List Dyn66)) (A19 : Option Addr) (cp20 : Nat), .inr (x17, x18) = r1 ∧ Fr 62 [(2, pb b1), (6, .string x17), (8, iv y3), (9, .slice A19 x18.length cp20)] a ∧ Inv w0 Z w (star (ownS 66 cD66 1 A19 cp20 x18) (star (pt b1 (.cells (c_ApiEvent (ApiEvent.mk 0 0 (⟨#[]⟩ : ByteArray) 0 0 (List.replicate 32 (0 : Int)))).toArray 42 (0, 0))) A))) ?_ ?_
   ·
    refine CodT.block ?_
    refine (fun a ha => wp_loopN (fun k a w => ∃ (x21 : ByteArray) (x22 : (List Dyn66)) (x25 : Int) (A23 : Option Addr) (cp24 : Nat), event_Get.l0 y14 k x21 x22 x25 = some r1 ∧ Fr 62 [(2, pb b1), (6, .string x21), (8, iv y3), (9, .slice A23 x22.length cp24), (32, iv (y14.length : Int)), (33, iv x25)] a ∧ Inv w0 Z w (star (ownS 66 cD66 1 A23 cp24 x22) (star (pt b1 (.cells (c_ApiEvent (ApiEvent.mk 0 0 (⟨#[]⟩ : ByteArray) 0 0 (List.replicate 32 (0 : Int)))).toArray 42 (0, 0))) A))) ?_ FU a w ⟨y4, y14, 0, A15, cp16, h1, ha.keep [2, 6, 8, 9, 32, 33] (by kernel_rfl), hI⟩)
    clear h1 hI
    rintro k a w ⟨x21, x22, x25, A23, cp24, h1, ha, hI⟩
    rcases k with _ | k
    ·
     cases h1
    simp only [event_Get.l0] at h1
    refine CodT.of ?_ ha
    refine cQ ?_
    refine cR [0] (by kernel_rfl) ?_
    refine oP (r := []) [0] (S' := [(2, pb b1), (6, .string x21), (8, iv y3), (9, .slice A23 x22.length cp24), (32, iv (y14.length : Int)), (33, iv x25), (34, .bool (decide (x25 < (y14.length : Int))))]) (by kernel_rfl) ?_
    refine oD ?_
    refine qT ?_
    refine cQ ?_
    by_cases hb26 : (decide (x25 < (y14.length : Int))) = true
    ·
     rw [if_pos hb26] at h1
     refine CodT.yes' (b := decide (x25 < (y14.length : Int))) (by kernel_rfl) hb26 ?_
     refine CodT.skip ?_
     refine qT ?_
     refine cQ ?_
     refine CodT.block ?_
     refine cQ ?_
     refine cR [0, 1] (by kernel_rfl) ?_
     refine oP (r := []) [0, 1] (S' := [(2, pb b1), (6, .string x21), (8, iv y3), (9, .slice A23 x22.length cp24), (10, iv x25), (32, iv (y14.length : Int)), (33, iv x25)]) (by kernel_rfl) ?_
     refine oD ?_
     refine qT ?_
     refine cQ ?_
     refine cR [0, 1, 2, 3, 4, 5, 6, 7, 8, 9, 10, 11, 12, 13, 14, 15] (by kernel_rfl) ?_
     refine oP (r := [4, 5, 6, 7, 8, 9, 10, 11, 12, 13, 14, 15]) [0, 1, 2, 3] (S' := [(2, pb b1), (6, .string x21), (8, iv y3), (9, .slice A23 x22.length cp24), (32, iv (y14.length : Int)), (33, iv x25), (37, .slice A23 x22.length cp24), (38, iv x25), (39, .slice A23 x22.length cp24), (40, iv x25)]) (by kernel_rfl) ?_
     obtain ⟨hg27, h1⟩ := guardS h1
     obtain ⟨g28, hA29, hr30, hl31⟩ := ownS_get hI hg27.1 hg27.2
     refine oC (Does.yi (Yl.indexSlice (d := 41) (T := 63) (cc := cp24) (k := .i64) (j := x25) (g := g28) (o := 0) (by kernel_rfl) Go.Proofs.Try.underlying63 ty66 hA29 hg27.1 hg27.2) hI ?_)
     refine oC (Does.yi (Yl.load (d := 42) (T := 66) (v := dynV66 (gt x22 x25)) (by kernel_rfl) (ldR ty66 (v := dynV66 (gt x22 x25)) 0 (fun w hC => hr30 w0 w _ hC) (by kernel_rfl))) hI ?_)
     refine oP (r := [7, 8, 9, 10, 11, 12, 13, 14, 15]) [6] (S' := [(2, pb b1), (8, iv y3), (9, .slice A23 x22.length cp24), (32, iv (y14.length : Int)), (33, iv x25), (37, .slice A23 x22.length cp24), (38, iv x25), (42, dynV66 (gt x22 x25)), (43, .string x21)]) (by kernel_rfl) ?_
     obtain ⟨⟨y33, y34, y35⟩, hc32, h1⟩ := bindS h1
     try dsimp only at h1
     refine oC (Does.call (d := some 44) (n := 31) (vs := [dynV66 (gt x22 x25), .string x21]) (by kernel_rfl) en31 (c31 w0 w _ _ hI (gt x22 x25) x21 _ hc32) ?_)
     rintro e w ⟨rfl, hI⟩
     refine ⟨_, rfl, ?_⟩
     refine oP (r := [12, 13, 14, 15]) [8, 9, 10, 11] (S' := [(2, pb b1), (8, iv y3), (9, .slice A23 x22.length cp24), (32, iv (y14.length : Int)), (33, iv x25), (37, .slice A23 x22.length cp24), (38, iv x25), (45, dynV66 y33), (46, .string y34), (47, .bool y35)]) (by kernel_rfl) ?_
     obtain ⟨hg36, h1⟩ := guardS h1
     obtain ⟨g37, hA38, hr39, hl40⟩ := ownS_get hI hg36.1 hg36.2
     refine oC (Does.yi (Yl.indexSlice (d := 48) (T := 63) (cc := cp24) (k := .i64) (j := x25) (g := g37) (o := 0) (by kernel_rfl) Go.Proofs.Try.underlying63 ty66 hA38 hg36.1 hg36.2) hI ?_)
     refine oC (Does.storeElem (T := 66) (j := x25) (k := 0) (v := dynV66 y33) (vs := ([dynV66 y33] : LV)) y33 (by kernel_rfl) ty66 hA38 hI hg36.1 hg36.2 (dynC66 _) (by kernel_rfl) (by kernel_rfl) (dynO66 _) (by kernel_rfl) ?_)
     intro w hI
     refine oK [2, 8, 9, 32, 33, 37, 38, 45, 46, 47] (S' := [(2, pb b1), (8, iv y3), (9, .slice A23 ((st x22 x25 y33).length) cp24), (32, iv (y14.length : Int)), (33, iv x25), (37, .slice A23 ((st x22 x25 y33).length) cp24), (38, iv x25), (45, dynV66 y33), (46, .string y34), (47, .bool y35)]) (by simp only [st_length]; kernel_rfl) ?_
     refine oP (r := []) [14, 15] (S' := [(2, pb b1), (6, .string y34), (7, .bool y35), (8, iv y3), (9, .slice A23 ((st x22 x25 y33).length) cp24), (32, iv (y14.length : Int)), (33, iv x25)]) (by kernel_rfl) ?_
     refine oD ?_
     refine qT ?_
     refine cQ ?_
     refine cR [0, 1] (by kernel_rfl) ?_
     refine oP (r := []) [0, 1] (S' := [(2, pb b1), (6, .string y34), (8, iv y3), (9, .slice A23 ((st x22 x25 y33).length) cp24), (32, iv (y14.length : Int)), (33, iv x25), (50, .bool (!y35))]) (by kernel_rfl) ?_
     refine oD ?_
     refine qT ?_
     by_cases hb41 : (!y35) = true
     ·
      rw [if_pos hb41] at h1
      refine CodT.yes' (b := !y35) (by kernel_rfl) hb41 ?_
      refine cQ ?_
      refine cR [0, 1, 2, 3] (by kernel_rfl) ?_
      refine oP (r := [1, 2, 3]) [0] (S' := [(2, pb b1), (51, .agg (c_ApiEvent (ApiEvent.mk 0 0 (⟨#[]⟩ : ByteArray) 0 0 (List.replicate 32 (0 : Int)))).toArray)]) (by kernel_rfl) ?_
      have hI := hI.mono (pick2 _ _ _)
      refine oC (dS (T := 42) (b := b1) (o := 0) (v := .agg (c_ApiEvent (ApiEvent.mk 0 0 (⟨#[]⟩ : ByteArray) 0 0 (List.replicate 32 (0 : Int)))).toArray) (l := c_ApiEvent (ApiEvent.mk 0 0 (⟨#[]⟩ : ByteArray) 0 0 (List.replicate 32 (0 : Int)))) (vs := c_ApiEvent (ApiEvent.mk 0 0 (⟨#[]⟩ : ByteArray) 0 0 (List.replicate 32 (0 : Int)))) (L' := c_ApiEvent (ApiEvent.mk 0 0 (⟨#[]⟩ : ByteArray) 0 0 (List.replicate 32 (0 : Int)))) (by kernel_rfl) ty42 hI (by kernel_rfl) (len_ApiEvent _ (by kernel_rfl)) (by rw [(len_ApiEvent _ (by kernel_rfl))]; kernel_rfl) (ones_app _ _ (by kernel_rfl) (ones_cA _)) (lset_all _ _ (Eq.trans (len_ApiEvent _ (by kernel_rfl)) (Eq.symm (len_ApiEvent _ (by kernel_rfl))))) ?_)
      intro w hI
      refine oP (r := []) [2, 3] (S' := [(2, pb b1), (3, .string (⟨#[]⟩ : ByteArray)), (4, .bool false)]) (by kernel_rfl) ?_
      refine oD ?_
      refine qT ?_
      refine CodT.ret ?_
      refine Qn.block_ret ?_
      refine Qn.ret_then ?_
      refine Qn.ret_then ?_
      refine Qn.block_ret ?_
      refine Qn.ret_then ?_
      refine Qn.ret_then ?_
      have hL42 := (ldBN ty42 (l := c_ApiEvent (ApiEvent.mk 0 0 (⟨#[]⟩ : ByteArray) 0 0 (List.replicate 32 (0 : Int)))) (o := 0) (cs := c_ApiEvent (ApiEvent.mk 0 0 (⟨#[]⟩ : ByteArray) 0 0 (List.replicate 32 (0 : Int)))) (ent_refl _) (len_ApiEvent _ (by kernel_rfl)) (whole _ _ (len_ApiEvent _ (by kernel_rfl)))) w hI
      have hI := hI.drop
      have hI := hI.drop
      have e := someS h1
      subst e
      try dsimp only at h0
      have e := someS h0
      subst e
      refine qK [2, 3, 4] (S' := [(2, pb b1), (3, .string (⟨#[]⟩ : ByteArray)), (4, .bool false)]) (by kernel_rfl) ?_
      exact post_ret (v := .tuple #[.agg (c_ApiEvent (ApiEvent.mk 0 0 (⟨#[]⟩ : ByteArray) 0 0 (List.replicate 32 (0 : Int)))).toArray, .string (⟨#[]⟩ : ByteArray), .bool false]) (fun a ha => RunRes.run (vs := [.agg (c_ApiEvent (ApiEvent.mk 0 0 (⟨#[]⟩ : ByteArray) 0 0 (List.replicate 32 (0 : Int)))).toArray, .string (⟨#[]⟩ : ByteArray), .bool false]) (.cell (t := 2) (T := 42) (ad := ⟨b1, 0, none⟩) (by kernel_rfl) hL42 (.tmp (t := 3) (by kernel_rfl) (.tmp (t := 4) (by kernel_rfl) .nil))) ha (by kernel_rfl)) ⟨rfl, (by kernel_rfl), hI⟩
     ·
      rw [if_neg hb41] at h1
      refine CodT.no' (b := !y35) (by kernel_rfl) (by simpa using hb41) ?_
      refine CodT.skip ?_
      refine Qn.block_normal ?_
      refine qT ?_
      refine cR [0, 1] (by kernel_rfl) ?_
      refine oP (r := []) [0, 1] (S' := [(2, pb b1), (6, .string y34), (8, iv y3), (9, .slice A23 ((st x22 x25 y33).length) cp24), (32, iv (y14.length : Int)), (33, iv (wi64 (x25 + 1)))]) (by kernel_rfl) ?_
      refine oD ?_
      exact Qn.thenJ fun a ha => ⟨k, Nat.lt_succ_self k, y34, st x22 x25 y33, wi64 (x25 + 1), A23, cp24, h1, ha.keep [2, 6, 8, 9, 32, 33] (by kernel_rfl), hI⟩
    ·
     rw [if_neg hb26] at h1
     refine CodT.no' (b := decide (x25 < (y14.length : Int))) (by kernel_rfl) (by simpa using hb26) ?_
     refine CodT.exit ?_
     refine Qn.exit_then ?_
     refine Qn.exit_then ?_
     refine Qn.block ?_
     have e := someS h1
     subst e
     exact Qn.thenJ fun a ha => ⟨x21, x22, A23, cp24, rfl, ha.keep [2, 6, 8, 9] (by kernel_rfl), hI⟩
   ·
    rintro a w ⟨x17, x18, A19, cp20, rfl, ha, hI⟩
    try dsimp only at h0
    refine Qn.of ?_ ha
    refine qT ?_
    refine cQ ?_
    refine cR [0, 1, 2, 3, 4] (by kernel_rfl) ?_
    refine oP (r := [2, 3, 4]) [0, 1] (S' := [(2, pb b1), (6, .string x17), (53, iv y3), (54, .slice A19 x18.length cp20)]) (by kernel_rfl) ?_
    obtain ⟨Z43, hle44, hr45, hI⟩ := ownS_freeze hI
    obtain ⟨y47, hc46, h0⟩ := bindS h0
    try dsimp only at h0
    refine oC (Does.call (d := some 55) (n := 32) (vs := [iv y3, .slice A19 x18.length cp20]) (by kernel_rfl) en32 (c32 w0 w _ _ hI y3 A19 cp20 x18 hr45 _ hc46) ?_)
    rintro e w ⟨rfl, hl48, hI⟩
    refine ⟨_, rfl, ?_⟩
    refine oC (Does.allocL (d := 11) (T := 42) (c_ApiEvent (ApiEvent.mk 0 0 (⟨#[]⟩ : ByteArray) 0 0 (List.replicate 32 (0 : Int)))) (by kernel_rfl) ty42 hI (by kernel_rfl) ?_)
    intro b49 w hI
    refine oC (dS (T := 42) (b := b49) (o := 0) (v := .agg (c_ApiEvent y47).toArray) (l := c_ApiEvent (ApiEvent.mk 0 0 (⟨#[]⟩ : ByteArray) 0 0 (List.replicate 32 (0 : Int)))) (vs := c_ApiEvent y47) (L' := c_ApiEvent y47) (by kernel_rfl) ty42 hI (by kernel_rfl) (len_ApiEvent _ hl48) (by rw [(len_ApiEvent _ (by kernel_rfl))]; kernel_rfl) (ones_app _ _ (by kernel_rfl) (ones_cA _)) (lset_all _ _ (Eq.trans (len_ApiEvent _ hl48) (Eq.symm (len_ApiEvent _ (by kernel_rfl))))) ?_)
    intro w hI
    refine oD ?_
    refine qT ?_
    refine cQ ?_
    refine cQ ?_
    refine cR [0, 1, 2] (by kernel_rfl) ?_
    refine oC (Does.yi (Yl.load (d := 56) (T := 42) (v := .agg (c_ApiEvent y47).toArray) (by kernel_rfl) (ldBN ty42 (l := c_ApiEvent y47) (o := 0) (cs := c_ApiEvent y47) (ent_refl _) (len_ApiEvent _ hl48) (whole _ _ (len_ApiEvent _ hl48)))) hI ?_)
    obtain ⟨y51, hc50, h0⟩ := bindS h0
    try dsimp only at h0
    refine oC (Does.call (d := some 57) (n := 33) (vs := [.agg (c_ApiEvent y47).toArray]) (by kernel_rfl) en33 (c33 w0 w _ _ hI y47 hl48 _ hc50) ?_)
    rintro e w ⟨rfl, hI⟩
    refine ⟨_, rfl, ?_⟩
    refine oP (r := []) [2] (S' := [(2, pb b1), (6, .string x17), (11, pb b49), (58, .bool (!y51))]) (by kernel_rfl) ?_
    refine oD ?_
    refine qT ?_
    by_cases hb52 : (!y51) = true
    ·
     rw [if_pos hb52] at h0
     refine CodT.yes' (b := !y51) (by kernel_rfl) hb52 ?_
     refine cQ ?_
     refine cR [0, 1, 2, 3] (by kernel_rfl) ?_
     refine oP (r := [1, 2, 3]) [0] (S' := [(2, pb b1), (59, .agg (c_ApiEvent (ApiEvent.mk 0 0 (⟨#[]⟩ : ByteArray) 0 0 (List.replicate 32 (0 : Int)))).toArray)]) (by kernel_rfl) ?_
     have hI := hI.mono (pick2 _ _ _)
     refine oC (dS (T := 42) (b := b1) (o := 0) (v := .agg (c_ApiEvent (ApiEvent.mk 0 0 (⟨#[]⟩ : ByteArray) 0 0 (List.replicate 32 (0 : Int)))).toArray) (l := c_ApiEvent (ApiEvent.mk 0 0 (⟨#[]⟩ : ByteArray) 0 0 (List.replicate 32 (0 : Int)))) (vs := c_ApiEvent (ApiEvent.mk 0 0 (⟨#[]⟩ : ByteArray) 0 0 (List.replicate 32 (0 : Int)))) (L' := c_ApiEvent (ApiEvent.mk 0 0 (⟨#[]⟩ : ByteArray) 0 0 (List.replicate 32 (0 : Int)))) (by kernel_rfl) ty42 hI (by kernel_rfl) (len_ApiEvent _ (by kernel_rfl)) (by rw [(len_ApiEvent _ (by kernel_rfl))]; kernel_rfl) (ones_app _ _ (by kernel_rfl) (ones_cA _)) (lset_all _ _ (Eq.trans (len_ApiEvent _ (by kernel_rfl)) (Eq.symm (len_ApiEvent _ (by kernel_rfl))))) ?_)
     intro w hI
     refine oP (r := []) [2, 3] (S' := [(2, pb b1), (3, .string (⟨#[]⟩ : ByteArray)), (4, .bool false)]) (by kernel_rfl) ?_
     refine oD ?_
     refine qT ?_
     refine CodT.ret ?_
     refine Qn.ret_then ?_
     have hL53 := (ldBN ty42 (l := c_ApiEvent (ApiEvent.mk 0 0 (⟨#[]⟩ : ByteArray) 0 0 (List.replicate 32 (0 : Int)))) (o := 0) (cs := c_ApiEvent (ApiEvent.mk 0 0 (⟨#[]⟩ : ByteArray) 0 0 (List.replicate 32 (0 : Int)))) (ent_refl _) (len_ApiEvent _ (by kernel_rfl)) (whole _ _ (len_ApiEvent _ (by kernel_rfl)))) w hI
     have hI := hI.drop
     have hI := hI.drop
     have e := someS h0
     subst e
     refine qK [2, 3, 4] (S' := [(2, pb b1), (3, .string (⟨#[]⟩ : ByteArray)), (4, .bool false)]) (by kernel_rfl) ?_
     exact post_ret (v := .tuple #[.agg (c_ApiEvent (ApiEvent.mk 0 0 (⟨#[]⟩ : ByteArray) 0 0 (List.replicate 32 (0 : Int)))).toArray, .string (⟨#[]⟩ : ByteArray), .bool false]) (fun a ha => RunRes.run (vs := [.agg (c_ApiEvent (ApiEvent.mk 0 0 (⟨#[]⟩ : ByteArray) 0 0 (List.replicate 32 (0 : Int)))).toArray, .string (⟨#[]⟩ : ByteArray), .bool false]) (.cell (t := 2) (T := 42) (ad := ⟨b1, 0, none⟩) (by kernel_rfl) hL53 (.tmp (t := 3) (by kernel_rfl) (.tmp (t := 4) (by kernel_rfl) .nil))) ha (by kernel_rfl)) ⟨rfl, (by kernel_rfl), hI.weaken hle44⟩
    ·
     rw [if_neg hb52] at h0
     refine CodT.no' (b := !y51) (by kernel_rfl) (by simpa using hb52) ?_
     refine CodT.skip ?_
     refine qT ?_
     refine cQ ?_
     refine cR [0, 1, 2, 3, 4] (by kernel_rfl) ?_
     refine oC (Does.yi (Yl.load (d := 60) (T := 42) (v := .agg (c_ApiEvent y47).toArray) (by kernel_rfl) (ldBN ty42 (l := c_ApiEvent y47) (o := 0) (cs := c_ApiEvent y47) (ent_refl _) (len_ApiEvent _ hl48) (whole _ _ (len_ApiEvent _ hl48)))) hI ?_)
     refine oP (r := [2, 3, 4]) [1] (S' := [(2, pb b1), (60, .agg (c_ApiEvent y47).toArray), (61, .string x17)]) (by kernel_rfl) ?_
     have hI := hI.mono (pick2 _ _ _)
     refine oC (dS (T := 42) (b := b1) (o := 0) (v := .agg (c_ApiEvent y47).toArray) (l := c_ApiEvent (ApiEvent.mk 0 0 (⟨#[]⟩ : ByteArray) 0 0 (List.replicate 32 (0 : Int)))) (vs := c_ApiEvent y47) (L' := c_ApiEvent y47) (by kernel_rfl) ty42 hI (by kernel_rfl) (len_ApiEvent _ hl48) (by rw [(len_ApiEvent _ (by kernel_rfl))]; kernel_rfl) (ones_app _ _ (by kernel_rfl) (ones_cA _)) (lset_all _ _ (Eq.trans (len_ApiEvent _ hl48) (Eq.symm (len_ApiEvent _ (by kernel_rfl))))) ?_)
     intro w hI
     refine oP (r := []) [3, 4] (S' := [(2, pb b1), (3, .string x17), (4, .bool true)]) (by kernel_rfl) ?_
     refine oD ?_
     refine qT ?_
     refine CodT.ret ?_
     have hL54 := (ldBN ty42 (l := c_ApiEvent y47) (o := 0) (cs := c_ApiEvent y47) (ent_refl _) (len_ApiEvent _ hl48) (whole _ _ (len_ApiEvent _ hl48))) w hI
     have hI := hI.drop
     have hI := hI.drop
     have e := someS h0
     subst e
     refine qK [2, 3, 4] (S' := [(2, pb b1), (3, .string x17), (4, .bool true)]) (by kernel_rfl) ?_
     exact post_ret (v := .tuple #[.agg (c_ApiEvent y47).toArray, .string x17, .bool true]) (fun a ha => RunRes.run (vs := [.agg (c_ApiEvent y47).toArray, .string x17, .bool true]) (.cell (t := 2) (T := 42) (ad := ⟨b1, 0, none⟩) (by kernel_rfl) hL54 (.tmp (t := 3) (by kernel_rfl) (.tmp (t := 4) (by kernel_rfl) .nil))) ha (by kernel_rfl)) ⟨rfl, hl48, hI.weaken hle44⟩
end Go.Cen
