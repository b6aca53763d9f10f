/- That the machine computes these: walks, printed by a program of ours. -/
import Derived.Test.YthdoklobbcedcacPx
import Derived.Test.YthdoklobbcedcacWx3
set_option linter.unusedVariables false
set_option linter.unusedSimpArgs false
namespace Go.Cen
set_option maxRecDepth 100000 in
set_option maxHeartbeats 4000000 in
/-- cenotaph/cenotaphref06.Collide -/
theorem c11 (w0 w : World) (Z : Hp) (A : HP) (hI : Inv w0 Z w A) (A_a0 : Option Addr) (c_a0 : Nat) (a0 : (List ApiEvent)) (hr_a0 : RdS Z c_ApiEvent 37 A_a0 c_a0 a0) (A_a1 : Option Addr) (c_a1 : Nat) (a1 : (List ApiEvent)) (hr_a1 : RdS Z c_ApiEvent 37 A_a1 c_a1 a1) (r : (ByteArray × ByteArray × Bool)) (h0 : ref06_Collide a0 a1 = some r) :
    Calls prog 11 #[.slice A_a0 a0.length c_a0, .slice A_a1 a1.length c_a1] w (fun e w' => e = .returned (.tuple #[.string r.1, .string r.2.1, .bool r.2.2]) ∧ Inv w0 Z w' A) := by
  have e4 := calls_intro (R := (fun e w' => e = .returned (.tuple #[.string r.1, .string r.2.1, .bool r.2.2]) ∧ Inv w0 Z w' A)) (w := w) (args := [.slice A_a0 a0.length c_a0, .slice A_a1 a1.length c_a1]) (fn := Go.Proofs.Try.f11) 65 Go.Proofs.Try.func11 (by rfl) Go.Proofs.Try.ntmps11 (by kernel_rfl)
  refine e4 ?_
  clear e4
  unfold ref06_Collide at h0
  refine CodT.seq ?_
  refine CodT.regionL [0, 1, 2] (by kernel_rfl) ?_
  refine OpsT.pures (r := []) [0, 1, 2] [0, 1] (S' := [(0, .slice A_a0 a0.length c_a0), (1, .slice A_a1 a1.length c_a1)]) (by kernel_rfl) ?_
  refine OpsT.done ?_
  refine Qn.then ?_
  refine CodT.seq ?_
  refine CodT.regionL [0, 1, 2] (by kernel_rfl) ?_
  refine OpsT.pures (r := [1, 2]) [0] [0, 1, 13] (S' := [(0, .slice A_a0 a0.length c_a0), (1, .slice A_a1 a1.length c_a1), (13, .slice A_a0 a0.length c_a0)]) (by kernel_rfl) ?_
  obtain ⟨y2, hc1, h0⟩ := bindS h0
  try dsimp only at h0
  refine OpsT.cons (Does.call (d := some 14) (n := 23) (vs := [.slice A_a0 a0.length c_a0]) (by kernel_rfl) en23 (c23 w0 w _ _ hI A_a0 c_a0 a0 hr_a0 _ hc1) ?_)
  rintro e w ⟨A3, cp4, rfl, hI⟩
  refine ⟨_, rfl, ?_⟩
  refine OpsT.pures (r := []) [2] [0, 1, 7] (S' := [(0, .slice A_a0 a0.length c_a0), (1, .slice A_a1 a1.length c_a1), (7, .slice A3 y2.length cp4)]) (by kernel_rfl) ?_
  refine OpsT.done ?_
  refine Qn.then ?_
  refine CodT.seq ?_
  refine CodT.regionL [0, 1, 2] (by kernel_rfl) ?_
  refine OpsT.pures (r := [1, 2]) [0] [0, 1, 7, 15] (S' := [(0, .slice A_a0 a0.length c_a0), (1, .slice A_a1 a1.length c_a1), (7, .slice A3 y2.length cp4), (15, .slice A_a1 a1.length c_a1)]) (by kernel_rfl) ?_
  obtain ⟨y6, hc5, h0⟩ := bindS h0
  try dsimp only at h0
  refine OpsT.cons (Does.call (d := some 16) (n := 23) (vs := [.slice A_a1 a1.length c_a1]) (by kernel_rfl) en23 (c23 w0 w _ _ hI A_a1 c_a1 a1 hr_a1 _ hc5) ?_)
  rintro e w ⟨A7, cp8, rfl, hI⟩
  refine ⟨_, rfl, ?_⟩
  refine OpsT.pures (r := []) [2] [0, 1, 7, 8] (S' := [(0, .slice A_a0 a0.length c_a0), (1, .slice A_a1 a1.length c_a1), (7, .slice A3 y2.length cp4), (8, .slice A7 y6.length cp8)]) (by kernel_rfl) ?_
  refine OpsT.done ?_
  refine Qn.then ?_
  refine CodT.seq ?_
  obtain ⟨r1, h1, h0⟩ := bindS h0
  refine CodT.meet (fun a w => ∃ (x9 : Bool), x9 = r1 ∧ Fr 65 [(0, .slice A_a0 a0.length c_a0), (1, .slice A_a1 a1.length c_a1), (7, .slice A3 y2.length cp4), (8, .slice A7 y6.length cp8), (37, .bool x9)] a ∧ Inv w0 Z w (star (ownS 29 (cA (Value.int .u8)) 32 A7 cp8 y6) (star (ownS 29 (cA (Value.int .u8)) 32 A3 cp4 y2) A))) ?_ ?_
  ·
    refine CodT.drawI (n := 21) [] (by kernel_rfl) (by kernel_rfl) hI ?_
    intro w hI
    refine GmT.p' 0 17 (.slice A3 y2.length cp4) (by kernel_rfl) (by kernel_rfl) ?_
    refine GmT.p' 1 18 (.int .i64 (y2.length : Int)) (by kernel_rfl) (by kernel_rfl) ?_
    refine GmT.p' 2 19 (.bool ((y2.length : Int) == 0)) (by kernel_rfl) (by kernel_rfl) ?_
    refine GmT.p' 3 20 (.bool ((y2.length : Int) == 0)) (by kernel_rfl) (by kernel_rfl) ?_
    by_cases hb10 : ((y2.length : Int) == 0) = true
    · rw [if_pos hb10] at h1
      refine GmT.keep [0, 1, 7, 8, 20] (S' := [(0, .slice A_a0 a0.length c_a0), (1, .slice A_a1 a1.length c_a1), (7, .slice A3 y2.length cp4), (8, .slice A7 y6.length cp8), (20, .bool true)]) (by simp only [hb10]; kernel_rfl) ?_
      refine GmT.p' 4 21 (undef) (by kernel_rfl) (by kernel_rfl) ?_
      refine GmT.p' 5 22 (undef) (by kernel_rfl) (by kernel_rfl) ?_
      refine GmT.p' 6 23 (undef) (by kernel_rfl) (by kernel_rfl) ?_
      refine GmT.p' 7 24 (.bool true) (by kernel_rfl) (by kernel_rfl) ?_
      refine GmT.p' 8 25 (.bool true) (by kernel_rfl) (by kernel_rfl) ?_
      refine GmT.p' 9 26 (undef) (by kernel_rfl) (by kernel_rfl) ?_
      refine GmT.p' 10 27 (undef) (by kernel_rfl) (by kernel_rfl) ?_
      refine GmT.p' 11 28 (undef) (by kernel_rfl) (by kernel_rfl) ?_
      refine GmT.p' 12 29 (undef) (by kernel_rfl) (by kernel_rfl) ?_
      refine GmT.p' 13 30 (undef) (by kernel_rfl) (by kernel_rfl) ?_
      refine GmT.p' 14 31 (undef) (by kernel_rfl) (by kernel_rfl) ?_
      refine GmT.p' 15 32 (undef) (by kernel_rfl) (by kernel_rfl) ?_
      refine GmT.p' 16 33 (undef) (by kernel_rfl) (by kernel_rfl) ?_
      refine GmT.p' 17 34 (undef) (by kernel_rfl) (by kernel_rfl) ?_
      refine GmT.p' 18 35 (undef) (by kernel_rfl) (by kernel_rfl) ?_
      refine GmT.p' 19 36 (undef) (by kernel_rfl) (by kernel_rfl) ?_
      refine GmT.p' 20 37 (.bool true) (by kernel_rfl) (by kernel_rfl) ?_
      refine GmT.done (by kernel_rfl) ?_
      have e := someS h1
      subst e
      exact Qn.thenJ fun a ha => ⟨true, rfl, ha.keep [0, 1, 7, 8, 37] (by kernel_rfl), hI⟩
    · rw [if_neg hb10] at h1
      have hb10 : ((y2.length : Int) == 0) = false := by simpa using hb10
      refine GmT.keep [0, 1, 7, 8, 20] (S' := [(0, .slice A_a0 a0.length c_a0), (1, .slice A_a1 a1.length c_a1), (7, .slice A3 y2.length cp4), (8, .slice A7 y6.length cp8), (20, .bool false)]) (by simp only [hb10]; kernel_rfl) ?_
      refine GmT.p' 4 21 (.slice A7 y6.length cp8) (by kernel_rfl) (by kernel_rfl) ?_
      refine GmT.p' 5 22 (.int .i64 (y6.length : Int)) (by kernel_rfl) (by kernel_rfl) ?_
      refine GmT.p' 6 23 (.bool ((y6.length : Int) == 0)) (by kernel_rfl) (by kernel_rfl) ?_
      refine GmT.p' 7 24 (.bool ((y6.length : Int) == 0)) (by kernel_rfl) (by kernel_rfl) ?_
      refine GmT.p' 8 25 (.bool ((y6.length : Int) == 0)) (by kernel_rfl) (by kernel_rfl) ?_
      by_cases hb11 : ((y6.length : Int) == 0) = true
      · rw [if_pos hb11] at h1
        refine GmT.keep [0, 1, 7, 8, 25] (S' := [(0, .slice A_a0 a0.length c_a0), (1, .slice A_a1 a1.length c_a1), (7, .slice A3 y2.length cp4), (8, .slice A7 y6.length cp8), (25, .bool true)]) (by simp only [hb11]; kernel_rfl) ?_
        refine GmT.p' 9 26 (undef) (by kernel_rfl) (by kernel_rfl) ?_
        refine GmT.p' 10 27 (undef) (by kernel_rfl) (by kernel_rfl) ?_
        refine GmT.p' 11 28 (undef) (by kernel_rfl) (by kernel_rfl) ?_
        refine GmT.p' 12 29 (undef) (by kernel_rfl) (by kernel_rfl) ?_
        refine GmT.p' 13 30 (undef) (by kernel_rfl) (by kernel_rfl) ?_
        refine GmT.p' 14 31 (undef) (by kernel_rfl) (by kernel_rfl) ?_
        refine GmT.p' 15 32 (undef) (by kernel_rfl) (by kernel_rfl) ?_
        refine GmT.p' 16 33 (undef) (by kernel_rfl) (by kernel_rfl) ?_
        refine GmT.p' 17 34 (undef) (by kernel_rfl) (by kernel_rfl) ?_
        refine GmT.p' 18 35 (undef) (by kernel_rfl) (by kernel_rfl) ?_
        refine GmT.p' 19 36 (undef) (by kernel_rfl) (by kernel_rfl) ?_
        refine GmT.p' 20 37 (.bool true) (by kernel_rfl) (by kernel_rfl) ?_
        refine GmT.done (by kernel_rfl) ?_
        have e := someS h1
        subst e
        exact Qn.thenJ fun a ha => ⟨true, rfl, ha.keep [0, 1, 7, 8, 37] (by kernel_rfl), hI⟩
      · rw [if_neg hb11] at h1
        have hb11 : ((y6.length : Int) == 0) = false := by simpa using hb11
        refine GmT.keep [0, 1, 7, 8, 25] (S' := [(0, .slice A_a0 a0.length c_a0), (1, .slice A_a1 a1.length c_a1), (7, .slice A3 y2.length cp4), (8, .slice A7 y6.length cp8), (25, .bool false)]) (by simp only [hb11]; kernel_rfl) ?_
        refine GmT.p' 9 26 (.slice A3 y2.length cp4) (by kernel_rfl) (by kernel_rfl) ?_
        refine GmT.p' 10 27 (.slice A_a0 a0.length c_a0) (by kernel_rfl) (by kernel_rfl) ?_
        refine GmT.p' 11 28 (.int .i64 (a0.length : Int)) (by kernel_rfl) (by kernel_rfl) ?_
        refine GmT.p' 14 31 (.slice A7 y6.length cp8) (by kernel_rfl) (by kernel_rfl) ?_
        refine GmT.p' 15 32 (.slice A_a1 a1.length c_a1) (by kernel_rfl) (by kernel_rfl) ?_
        refine GmT.p' 16 33 (.int .i64 (a1.length : Int)) (by kernel_rfl) (by kernel_rfl) ?_
        obtain ⟨hg12, h1⟩ := guardS h1
        obtain ⟨g13, hA14, hr15, hl16⟩ := ownS_get (hI.mono (pick2 _ _ _)) hg12.1 hg12.2
        refine GmT.r (i := 12) 2 (by kernel_rfl) (by kernel_rfl) (Yl.indexSlice (d := 29) (T := 32) (cc := cp4) (k := .i64) (j := (a0.length : Int)) (g := g13) (o := 0) (by kernel_rfl) Go.Proofs.Try.underlying32 ty29 hA14 hg12.1 hg12.2) hI ?_
        refine GmT.r (i := 13) 2 (by kernel_rfl) (by kernel_rfl) (Yl.load (d := 30) (T := 29) (v := .agg (cA (Value.int .u8) (gt y2 (a0.length : Int))).toArray) (by kernel_rfl) (ldRN ty29 (cs := cA (Value.int .u8) (gt y2 (a0.length : Int))) 0 (fun w hC => hr15 w0 w _ (hC.mono (pick2 _ _ _))) ((cA_length _ _).trans ((cA_length _ _).symm.trans hl16)) (whole _ _ ((cA_length _ _).trans ((cA_length _ _).symm.trans hl16))))) hI ?_
        obtain ⟨hg17, h1⟩ := guardS h1
        obtain ⟨g18, hA19, hr20, hl21⟩ := ownS_get hI hg17.1 hg17.2
        refine GmT.r (i := 17) 2 (by kernel_rfl) (by kernel_rfl) (Yl.indexSlice (d := 34) (T := 32) (cc := cp8) (k := .i64) (j := (a1.length : Int)) (g := g18) (o := 0) (by kernel_rfl) Go.Proofs.Try.underlying32 ty29 hA19 hg17.1 hg17.2) hI ?_
        refine GmT.r (i := 18) 2 (by kernel_rfl) (by kernel_rfl) (Yl.load (d := 35) (T := 29) (v := .agg (cA (Value.int .u8) (gt y6 (a1.length : Int))).toArray) (by kernel_rfl) (ldRN ty29 (cs := cA (Value.int .u8) (gt y6 (a1.length : Int))) 0 (fun w hC => hr20 w0 w _ hC) ((cA_length _ _).trans ((cA_length _ _).symm.trans hl21)) (whole _ _ ((cA_length _ _).trans ((cA_length _ _).symm.trans hl21))))) hI ?_
        refine GmT.r (i := 19) 2 (by kernel_rfl) (by kernel_rfl) (Yl.neqA (k := .u8) (d := 36) (T := 29) (xs := gt y2 (a0.length : Int)) (ys := gt y6 (a1.length : Int)) (by kernel_rfl) Go.Proofs.Try.underlying29 (by kernel_rfl) Go.Proofs.Try.underlying5 ty5 ((cA_length _ _).symm.trans hl16) ((cA_length _ _).symm.trans hl21)) hI ?_
        refine GmT.p' 20 37 (.bool (!(eqA (gt y2 (a0.length : Int)) (gt y6 (a1.length : Int))))) (by kernel_rfl) (by kernel_rfl) ?_
        refine GmT.done (by kernel_rfl) ?_
        have e := someS h1
        subst e
        exact Qn.thenJ fun a ha => ⟨!(eqA (gt y2 (a0.length : Int)) (gt y6 (a1.length : Int))), rfl, ha.keep [0, 1, 7, 8, 37] (by kernel_rfl), hI⟩
  ·
    rintro a w ⟨x9, rfl, ha, hI⟩
    try dsimp only at h0
    refine CodT.of ?_ ha
    by_cases hb22 : x9 = true
    · rw [if_pos hb22] at h0
      refine CodT.yes' (b := x9) (by kernel_rfl) hb22 ?_
      refine CodT.seq ?_
      refine CodT.regionL [0, 1, 2] (by kernel_rfl) ?_
      refine OpsT.pures (r := []) [0, 1, 2] [4, 5, 6] (S' := [(4, .string (⟨#[]⟩ : ByteArray)), (5, .string (⟨#[]⟩ : ByteArray)), (6, .bool false)]) (by kernel_rfl) ?_
      refine OpsT.done ?_
      refine Qn.then ?_
      refine CodT.ret ?_
      refine Qn.ret_then ?_
      have hI := hI.drop
      have hI := hI.drop
      have e := someS h0
      subst e
      refine Qn.keep [4, 5, 6] (S' := [(4, .string (⟨#[]⟩ : ByteArray)), (5, .string (⟨#[]⟩ : ByteArray)), (6, .bool false)]) (by kernel_rfl) ?_
      exact post_ret (v := .tuple #[.string (⟨#[]⟩ : ByteArray), .string (⟨#[]⟩ : ByteArray), .bool false]) (fun a ha => RunRes.run (vs := [.string (⟨#[]⟩ : ByteArray), .string (⟨#[]⟩ : ByteArray), .bool false]) (.tmp (t := 4) (by kernel_rfl) (.tmp (t := 5) (by kernel_rfl) (.tmp (t := 6) (by kernel_rfl) .nil))) ha (by kernel_rfl)) ⟨rfl, hI⟩
    · rw [if_neg hb22] at h0
      refine CodT.no' (b := x9) (by kernel_rfl) (by simpa using hb22) ?_
      refine CodT.skip ?_
      refine Qn.then ?_
      refine CodT.seq ?_
      refine CodT.regionL [0, 1, 2] (by kernel_rfl) ?_
      refine OpsT.pures (r := []) [0, 1, 2] [0, 1, 7, 8, 9] (S' := [(0, .slice A_a0 a0.length c_a0), (1, .slice A_a1 a1.length c_a1), (7, .slice A3 y2.length cp4), (8, .slice A7 y6.length cp8), (9, .int .i64 (a0.length : Int))]) (by kernel_rfl) ?_
      refine OpsT.done ?_
      refine Qn.then ?_
      refine CodT.seq ?_
      refine CodT.regionL [0, 1, 2] (by kernel_rfl) ?_
      refine OpsT.pures (r := []) [0, 1, 2] [0, 1, 7, 8, 9, 10] (S' := [(0, .slice A_a0 a0.length c_a0), (1, .slice A_a1 a1.length c_a1), (7, .slice A3 y2.length cp4), (8, .slice A7 y6.length cp8), (9, .int .i64 (a0.length : Int)), (10, .int .i64 (a1.length : Int))]) (by kernel_rfl) ?_
      refine OpsT.done ?_
      refine Qn.then ?_
      have hI := hI.mono (pick2 _ _ _)
      obtain ⟨Z23, hle24, hr25, hI⟩ := ownS_freeze hI
      obtain ⟨Z26, hle27, hr28, hI⟩ := ownS_freeze hI
      refine CodT.seq ?_
      obtain ⟨r1, h1, h0⟩ := bindS h0
      refine CodT.meet1 (fun a w => .inr () = r1 ∧ Fr 65 [] a ∧ Inv w0 Z26 w A) ?_ ?_
      ·
        refine CodT.block ?_
        refine (fun a ha => wp_loopN (fun k a w => ∃ (x29 : Int) (x30 : Int), ref06_Collide.l0 y2 a0 y6 a1 k x29 x30 = some r1 ∧ Fr 65 [(0, .slice A_a0 a0.length c_a0), (1, .slice A_a1 a1.length c_a1), (7, .slice A3 y2.length cp4), (8, .slice A7 y6.length cp8), (9, .int .i64 x29), (10, .int .i64 x30)] a ∧ Inv w0 Z26 w A) ?_ FU a w ⟨(a0.length : Int), (a1.length : Int), h1, ha.keep [0, 1, 7, 8, 9, 10] (by kernel_rfl), hI⟩)
        clear h1 hI
        rintro k a w ⟨x29, x30, h1, ha, hI⟩
        rcases k with _ | k
        · cases h1
        simp only [ref06_Collide.l0] at h1
        refine CodT.of ?_ ha
        refine CodT.seq ?_
        obtain ⟨r2, h2, h1⟩ := bindS h1
        refine CodT.meet (fun a w => ∃ (x31 : Bool), x31 = r2 ∧ Fr 65 [(0, .slice A_a0 a0.length c_a0), (1, .slice A_a1 a1.length c_a1), (7, .slice A3 y2.length cp4), (8, .slice A7 y6.length cp8), (9, .int .i64 x29), (10, .int .i64 x30), (47, .bool x31)] a ∧ Inv w0 Z26 w A) ?_ ?_
        ·
          refine CodT.regionL [0, 1, 2, 3, 4, 5] (by kernel_rfl) ?_
          refine OpsT.pures (r := [3, 4, 5]) [0, 1, 2] [0, 1, 7, 8, 9, 10, 44] (S' := [(0, .slice A_a0 a0.length c_a0), (1, .slice A_a1 a1.length c_a1), (7, .slice A3 y2.length cp4), (8, .slice A7 y6.length cp8), (9, .int .i64 x29), (10, .int .i64 x30), (44, .bool (decide (x29 ≥ 0)))]) (by kernel_rfl) ?_
          by_cases hb32 : (decide (x29 ≥ 0)) = true
          · rw [if_pos hb32] at h2
            refine OpsT.keep [0, 1, 7, 8, 9, 10, 44] (S' := [(0, .slice A_a0 a0.length c_a0), (1, .slice A_a1 a1.length c_a1), (7, .slice A3 y2.length cp4), (8, .slice A7 y6.length cp8), (9, .int .i64 x29), (10, .int .i64 x30), (44, .bool true)]) (by simp only [hb32]; kernel_rfl) ?_
            refine OpsT.pures (r := []) [3, 4, 5] [0, 1, 7, 8, 9, 10, 47] (S' := [(0, .slice A_a0 a0.length c_a0), (1, .slice A_a1 a1.length c_a1), (7, .slice A3 y2.length cp4), (8, .slice A7 y6.length cp8), (9, .int .i64 x29), (10, .int .i64 x30), (47, .bool (decide (x30 ≥ 0)))]) (by kernel_rfl) ?_
            refine OpsT.done ?_
            have e := someS h2
            subst e
            exact Qn.thenJ fun a ha => ⟨decide (x30 ≥ 0), rfl, ha.keep [0, 1, 7, 8, 9, 10, 47] (by kernel_rfl), hI⟩
          · rw [if_neg hb32] at h2
            have hb32 : (decide (x29 ≥ 0)) = false := by simpa using hb32
            refine OpsT.keep [0, 1, 7, 8, 9, 10, 44] (S' := [(0, .slice A_a0 a0.length c_a0), (1, .slice A_a1 a1.length c_a1), (7, .slice A3 y2.length cp4), (8, .slice A7 y6.length cp8), (9, .int .i64 x29), (10, .int .i64 x30), (44, .bool false)]) (by simp only [hb32]; kernel_rfl) ?_
            refine OpsT.pures (r := []) [3, 4, 5] [0, 1, 7, 8, 9, 10, 47] (S' := [(0, .slice A_a0 a0.length c_a0), (1, .slice A_a1 a1.length c_a1), (7, .slice A3 y2.length cp4), (8, .slice A7 y6.length cp8), (9, .int .i64 x29), (10, .int .i64 x30), (47, .bool false)]) (by kernel_rfl) ?_
            refine OpsT.done ?_
            have e := someS h2
            subst e
            exact Qn.thenJ fun a ha => ⟨false, rfl, ha.keep [0, 1, 7, 8, 9, 10, 47] (by kernel_rfl), hI⟩
        ·
          rintro a w ⟨x31, rfl, ha, hI⟩
          try dsimp only at h1
          refine CodT.of ?_ ha
          by_cases hb33 : x31 = true
          · rw [if_pos hb33] at h1
            refine CodT.yes' (b := x31) (by kernel_rfl) hb33 ?_
            refine CodT.skip ?_
            refine Qn.then ?_
            refine CodT.block ?_
            refine CodT.seq ?_
            refine CodT.regionL [0, 1, 2, 3, 4] (by kernel_rfl) ?_
            refine OpsT.pures (r := [3, 4]) [0, 1, 2] [0, 1, 7, 8, 9, 10, 48, 49, 50] (S' := [(0, .slice A_a0 a0.length c_a0), (1, .slice A_a1 a1.length c_a1), (7, .slice A3 y2.length cp4), (8, .slice A7 y6.length cp8), (9, .int .i64 x29), (10, .int .i64 x30), (48, .slice A3 y2.length cp4), (49, .slice A_a0 a0.length c_a0), (50, .int .i64 x29)]) (by kernel_rfl) ?_
            obtain ⟨y35, hc34, h1⟩ := bindS h1
            try dsimp only at h1
            refine OpsT.cons (Does.call (d := some 51) (n := 24) (vs := [.slice A3 y2.length cp4, .slice A_a0 a0.length c_a0, .int .i64 x29]) (by kernel_rfl) en24 (c24 w0 w _ _ hI A3 cp4 y2 (hr25.mono hle27) A_a0 c_a0 a0 (hr_a0.mono (Hp.le_trans hle24 hle27)) x29 _ hc34) ?_)
            rintro e w ⟨rfl, hI⟩
            refine ⟨_, rfl, ?_⟩
            refine OpsT.pures (r := []) [4] [0, 1, 7, 8, 9, 10, 11] (S' := [(0, .slice A_a0 a0.length c_a0), (1, .slice A_a1 a1.length c_a1), (7, .slice A3 y2.length cp4), (8, .slice A7 y6.length cp8), (9, .int .i64 x29), (10, .int .i64 x30), (11, .string y35)]) (by kernel_rfl) ?_
            refine OpsT.done ?_
            refine Qn.then ?_
            refine CodT.seq ?_
            refine CodT.regionL [0, 1, 2, 3, 4] (by kernel_rfl) ?_
            refine OpsT.pures (r := [3, 4]) [0, 1, 2] [0, 1, 7, 8, 9, 10, 11, 52, 53, 54] (S' := [(0, .slice A_a0 a0.length c_a0), (1, .slice A_a1 a1.length c_a1), (7, .slice A3 y2.length cp4), (8, .slice A7 y6.length cp8), (9, .int .i64 x29), (10, .int .i64 x30), (11, .string y35), (52, .slice A7 y6.length cp8), (53, .slice A_a1 a1.length c_a1), (54, .int .i64 x30)]) (by kernel_rfl) ?_
            obtain ⟨y37, hc36, h1⟩ := bindS h1
            try dsimp only at h1
            refine OpsT.cons (Does.call (d := some 55) (n := 24) (vs := [.slice A7 y6.length cp8, .slice A_a1 a1.length c_a1, .int .i64 x30]) (by kernel_rfl) en24 (c24 w0 w _ _ hI A7 cp8 y6 hr28 A_a1 c_a1 a1 (hr_a1.mono (Hp.le_trans hle24 hle27)) x30 _ hc36) ?_)
            rintro e w ⟨rfl, hI⟩
            refine ⟨_, rfl, ?_⟩
            refine OpsT.pures (r := []) [4] [0, 1, 7, 8, 9, 10, 11, 12] (S' := [(0, .slice A_a0 a0.length c_a0), (1, .slice A_a1 a1.length c_a1), (7, .slice A3 y2.length cp4), (8, .slice A7 y6.length cp8), (9, .int .i64 x29), (10, .int .i64 x30), (11, .string y35), (12, .string y37)]) (by kernel_rfl) ?_
            refine OpsT.done ?_
            refine Qn.then ?_
            refine CodT.seq ?_
            refine CodT.seq ?_
            refine CodT.regionL [0, 1, 2] (by kernel_rfl) ?_
            refine OpsT.pures (r := []) [0, 1, 2] [0, 1, 7, 8, 9, 10, 11, 12, 58] (S' := [(0, .slice A_a0 a0.length c_a0), (1, .slice A_a1 a1.length c_a1), (7, .slice A3 y2.length cp4), (8, .slice A7 y6.length cp8), (9, .int .i64 x29), (10, .int .i64 x30), (11, .string y35), (12, .string y37), (58, .bool (!(seq y35 y37)))]) (by kernel_rfl) ?_
            refine OpsT.done ?_
            refine Qn.then ?_
            by_cases hb38 : (!(seq y35 y37)) = true
            · rw [if_pos hb38] at h1
              refine CodT.yes' (b := !(seq y35 y37)) (by kernel_rfl) hb38 ?_
              refine CodT.seq ?_
              refine CodT.regionL [0, 1, 2, 3, 4] (by kernel_rfl) ?_
              refine OpsT.pures (r := []) [0, 1, 2, 3, 4] [4, 5, 6] (S' := [(4, .string y35), (5, .string y37), (6, .bool true)]) (by kernel_rfl) ?_
              refine OpsT.done ?_
              refine Qn.then ?_
              refine CodT.ret ?_
              refine Qn.ret_then ?_
              refine Qn.block_ret ?_
              refine Qn.ret_then ?_
              refine Qn.block_ret ?_
              refine Qn.ret_then ?_
              refine Qn.ret_then ?_
              have e := someS h1
              subst e
              try dsimp only at h0
              have e := someS h0
              subst e
              refine Qn.keep [4, 5, 6] (S' := [(4, .string y35), (5, .string y37), (6, .bool true)]) (by kernel_rfl) ?_
              exact post_ret (v := .tuple #[.string y35, .string y37, .bool true]) (fun a ha => RunRes.run (vs := [.string y35, .string y37, .bool true]) (.tmp (t := 4) (by kernel_rfl) (.tmp (t := 5) (by kernel_rfl) (.tmp (t := 6) (by kernel_rfl) .nil))) ha (by kernel_rfl)) ⟨rfl, hI.weaken (Hp.le_trans hle24 hle27)⟩
            · rw [if_neg hb38] at h1
              refine CodT.no' (b := !(seq y35 y37)) (by kernel_rfl) (by simpa using hb38) ?_
              refine CodT.skip ?_
              refine Qn.then ?_
              refine CodT.seq ?_
              refine CodT.regionL [0, 1, 2] (by kernel_rfl) ?_
              refine OpsT.pures (r := []) [0, 1, 2] [0, 1, 7, 8, 9, 10] (S' := [(0, .slice A_a0 a0.length c_a0), (1, .slice A_a1 a1.length c_a1), (7, .slice A3 y2.length cp4), (8, .slice A7 y6.length cp8), (9, .int .i64 (wi64 (x29 - 1))), (10, .int .i64 x30)]) (by kernel_rfl) ?_
              refine OpsT.done ?_
              refine Qn.then ?_
              refine CodT.regionL [0, 1, 2] (by kernel_rfl) ?_
              refine OpsT.pures (r := []) [0, 1, 2] [0, 1, 7, 8, 9, 10] (S' := [(0, .slice A_a0 a0.length c_a0), (1, .slice A_a1 a1.length c_a1), (7, .slice A3 y2.length cp4), (8, .slice A7 y6.length cp8), (9, .int .i64 (wi64 (x29 - 1))), (10, .int .i64 (wi64 (x30 - 1)))]) (by kernel_rfl) ?_
              refine OpsT.done ?_
              refine Qn.block_normal ?_
              exact Qn.thenJ fun a ha => ⟨k, Nat.lt_succ_self k, wi64 (x29 - 1), wi64 (x30 - 1), h1, ha.keep [0, 1, 7, 8, 9, 10] (by kernel_rfl), hI⟩
          · rw [if_neg hb33] at h1
            refine CodT.no' (b := x31) (by kernel_rfl) (by simpa using hb33) ?_
            refine CodT.exit ?_
            refine Qn.exit_then ?_
            refine Qn.exit_then ?_
            refine Qn.block ?_
            have e := someS h1
            subst e
            exact Qn.thenJ fun a ha => ⟨rfl, ha.keep [] (by kernel_rfl), hI⟩
      ·
        rintro a w ⟨rfl, ha, hI⟩
        try dsimp only at h0
        refine Qn.of ?_ ha
        refine Qn.then ?_
        refine CodT.seq ?_
        refine CodT.regionL [0, 1, 2] (by kernel_rfl) ?_
        refine OpsT.pures (r := []) [0, 1, 2] [4, 5, 6] (S' := [(4, .string (⟨#[]⟩ : ByteArray)), (5, .string (⟨#[]⟩ : ByteArray)), (6, .bool false)]) (by kernel_rfl) ?_
        refine OpsT.done ?_
        refine Qn.then ?_
        refine CodT.ret ?_
        have e := someS h0
        subst e
        refine Qn.keep [4, 5, 6] (S' := [(4, .string (⟨#[]⟩ : ByteArray)), (5, .string (⟨#[]⟩ : ByteArray)), (6, .bool false)]) (by kernel_rfl) ?_
        exact post_ret (v := .tuple #[.string (⟨#[]⟩ : ByteArray), .string (⟨#[]⟩ : ByteArray), .bool false]) (fun a ha => RunRes.run (vs := [.string (⟨#[]⟩ : ByteArray), .string (⟨#[]⟩ : ByteArray), .bool false]) (.tmp (t := 4) (by kernel_rfl) (.tmp (t := 5) (by kernel_rfl) (.tmp (t := 6) (by kernel_rfl) .nil))) ha (by kernel_rfl)) ⟨rfl, hI.weaken (Hp.le_trans hle24 hle27)⟩
set_option maxRecDepth 100000 in
set_option maxHeartbeats 4000000 in
/-- cenotaph/cenotaphref05.Same -/
theorem c15 (w0 w : World) (Z : Hp) (A : HP) (hI : Inv w0 Z w A) (A_a0 : Option Addr) (c_a0 : Nat) (a0 : (List ApiEvent)) (hr_a0 : RdS Z c_ApiEvent 37 A_a0 c_a0 a0) (A_a1 : Option Addr) (c_a1 : Nat) (a1 : (List ApiEvent)) (hr_a1 : RdS Z c_ApiEvent 37 A_a1 c_a1 a1) (r : Bool) (h0 : ref05_Same a0 a1 = some r) :
    Calls prog 15 #[.slice A_a0 a0.length c_a0, .slice A_a1 a1.length c_a1] w (fun e w' => e = .returned (.bool r) ∧ Inv w0 Z w' A) := by
  have e4 := calls_intro (R := (fun e w' => e = .returned (.bool r) ∧ Inv w0 Z w' A)) (w := w) (args := [.slice A_a0 a0.length c_a0, .slice A_a1 a1.length c_a1]) (fn := Go.Proofs.Try.f15) 26 Go.Proofs.Try.func15 (by rfl) Go.Proofs.Try.ntmps15 (by kernel_rfl)
  refine e4 ?_
  clear e4
  unfold ref05_Same at h0
  refine CodT.seq ?_
  refine CodT.regionL [0] (by kernel_rfl) ?_
  refine OpsT.pures (r := []) [0] [0, 1] (S' := [(0, .slice A_a0 a0.length c_a0), (1, .slice A_a1 a1.length c_a1)]) (by kernel_rfl) ?_
  refine OpsT.done ?_
  refine Qn.then ?_
  refine CodT.seq ?_
  refine CodT.seq ?_
  refine CodT.regionL [0, 1, 2, 3, 4] (by kernel_rfl) ?_
  refine OpsT.pures (r := []) [0, 1, 2, 3, 4] [0, 1, 10] (S' := [(0, .slice A_a0 a0.length c_a0), (1, .slice A_a1 a1.length c_a1), (10, .bool ((a0.length : Int) != (a1.length : Int)))]) (by kernel_rfl) ?_
  refine OpsT.done ?_
  refine Qn.then ?_
  by_cases hb1 : ((a0.length : Int) != (a1.length : Int)) = true
  · rw [if_pos hb1] at h0
    refine CodT.yes' (b := (a0.length : Int) != (a1.length : Int)) (by kernel_rfl) hb1 ?_
    refine CodT.seq ?_
    refine CodT.regionL [0] (by kernel_rfl) ?_
    refine OpsT.pures (r := []) [0] [4] (S' := [(4, .bool false)]) (by kernel_rfl) ?_
    refine OpsT.done ?_
    refine Qn.then ?_
    refine CodT.ret ?_
    refine Qn.ret_then ?_
    have e := someS h0
    subst e
    refine Qn.keep [4] (S' := [(4, .bool false)]) (by kernel_rfl) ?_
    exact post_ret (v := .bool false) (fun a ha => RunRes.run (vs := [.bool false]) (.tmp (t := 4) (by kernel_rfl) .nil) ha (by kernel_rfl)) ⟨rfl, hI⟩
  · rw [if_neg hb1] at h0
    refine CodT.no' (b := (a0.length : Int) != (a1.length : Int)) (by kernel_rfl) (by simpa using hb1) ?_
    refine CodT.skip ?_
    refine Qn.then ?_
    refine CodT.seq ?_
    refine CodT.seq ?_
    refine CodT.regionL [0] (by kernel_rfl) ?_
    refine OpsT.pures (r := []) [0] [0, 1, 5] (S' := [(0, .slice A_a0 a0.length c_a0), (1, .slice A_a1 a1.length c_a1), (5, .int .i64 0)]) (by kernel_rfl) ?_
    refine OpsT.done ?_
    refine Qn.then ?_
    obtain ⟨r1, h1, h0⟩ := bindS h0
    refine CodT.meet1 (fun a w => .inr () = r1 ∧ Fr 26 [] a ∧ Inv w0 Z w A) ?_ ?_
    ·
      refine CodT.block ?_
      refine (fun a ha => wp_loopN (fun k a w => ∃ (x2 : Int), ref05_Same.l0 a0 a1 k x2 = some r1 ∧ Fr 26 [(0, .slice A_a0 a0.length c_a0), (1, .slice A_a1 a1.length c_a1), (5, .int .i64 x2)] a ∧ Inv w0 Z w A) ?_ FU a w ⟨0, h1, ha.keep [0, 1, 5] (by kernel_rfl), hI⟩)
      clear h1 hI
      rintro k a w ⟨x2, h1, ha, hI⟩
      rcases k with _ | k
      · cases h1
      simp only [ref05_Same.l0] at h1
      refine CodT.of ?_ ha
      refine CodT.seq ?_
      refine CodT.seq ?_
      refine CodT.regionL [0, 1, 2, 3] (by kernel_rfl) ?_
      refine OpsT.pures (r := []) [0, 1, 2, 3] [0, 1, 5, 14] (S' := [(0, .slice A_a0 a0.length c_a0), (1, .slice A_a1 a1.length c_a1), (5, .int .i64 x2), (14, .bool (decide (x2 < (a0.length : Int))))]) (by kernel_rfl) ?_
      refine OpsT.done ?_
      refine Qn.then ?_
      by_cases hb3 : (decide (x2 < (a0.length : Int))) = true
      · rw [if_pos hb3] at h1
        refine CodT.yes' (b := decide (x2 < (a0.length : Int))) (by kernel_rfl) hb3 ?_
        refine CodT.skip ?_
        refine Qn.then ?_
        refine CodT.seq ?_
        refine CodT.block ?_
        refine CodT.seq ?_
        refine CodT.drawI (n := 9) [] (by kernel_rfl) (by kernel_rfl) hI ?_
        intro w hI
        refine GmT.p' 0 17 (.slice A_a0 a0.length c_a0) (by kernel_rfl) (by kernel_rfl) ?_
        refine GmT.p' 1 18 (.int .i64 x2) (by kernel_rfl) (by kernel_rfl) ?_
        refine GmT.p' 4 21 (.slice A_a1 a1.length c_a1) (by kernel_rfl) (by kernel_rfl) ?_
        refine GmT.p' 5 22 (.int .i64 x2) (by kernel_rfl) (by kernel_rfl) ?_
        obtain ⟨hg4, h1⟩ := guardS h1
        obtain ⟨g5, o9, hA6, hr7, hl8⟩ := RdS.get hr_a0 hg4.1 hg4.2
        refine GmT.r (i := 2) 2 (by kernel_rfl) (by kernel_rfl) (Yl.indexSlice (d := 19) (T := 22) (cc := c_a0) (k := .i64) (j := x2) (g := g5) (o := o9) (by kernel_rfl) Go.Proofs.Try.underlying22 ty42 hA6 hg4.1 hg4.2) hI ?_
        refine GmT.r (i := 3) 2 (by kernel_rfl) (by kernel_rfl) (Yl.load (d := 20) (T := 42) (v := .agg (c_ApiEvent (gt a0 x2)).toArray) (by kernel_rfl) (ldRN ty42 (cs := c_ApiEvent (gt a0 x2)) 0 (fun w hC => hr7 w0 w _ hC) hl8 (whole _ _ hl8))) hI ?_
        obtain ⟨hg10, h1⟩ := guardS h1
        obtain ⟨g11, o15, hA12, hr13, hl14⟩ := RdS.get hr_a1 hg10.1 hg10.2
        refine GmT.r (i := 6) 2 (by kernel_rfl) (by kernel_rfl) (Yl.indexSlice (d := 23) (T := 22) (cc := c_a1) (k := .i64) (j := x2) (g := g11) (o := o15) (by kernel_rfl) Go.Proofs.Try.underlying22 ty42 hA12 hg10.1 hg10.2) hI ?_
        refine GmT.r (i := 7) 2 (by kernel_rfl) (by kernel_rfl) (Yl.load (d := 24) (T := 42) (v := .agg (c_ApiEvent (gt a1 x2)).toArray) (by kernel_rfl) (ldRN ty42 (cs := c_ApiEvent (gt a1 x2)) 0 (fun w hC => hr13 w0 w _ hC) hl14 (whole _ _ hl14))) hI ?_
        refine GmT.r (i := 8) 2 (by kernel_rfl) (by kernel_rfl) (Yl.neqS (d := 25) (T := 42) (xs := ([.int .i64 ((gt a0 x2).Kind), .int .i64 ((gt a0 x2).ID), .string ((gt a0 x2).Name), .int .i64 ((gt a0 x2).Time), .int .i64 ((gt a0 x2).Len)] : List Value) ++ (cA (Value.int .u8) ((gt a0 x2).Sum))) (ys := ([.int .i64 ((gt a1 x2).Kind), .int .i64 ((gt a1 x2).ID), .string ((gt a1 x2).Name), .int .i64 ((gt a1 x2).Time), .int .i64 ((gt a1 x2).Len)] : List Value) ++ (cA (Value.int .u8) ((gt a1 x2).Sum))) (r := eq_ApiEvent (gt a0 x2) (gt a1 x2)) (by kernel_rfl) Go.Proofs.Try.underlying42 (by kernel_rfl) (by kernel_rfl) (.cons rfl (part1 (v := .int .i64 ((gt a0 x2).Kind)) ty40 (by kernel_rfl)) (part1 (v := .int .i64 ((gt a1 x2).Kind)) ty40 (by kernel_rfl)) (eqI Go.Proofs.Try.underlying40) (.cons rfl (part1 (v := .int .i64 ((gt a0 x2).ID)) ty3 (by kernel_rfl)) (part1 (v := .int .i64 ((gt a1 x2).ID)) ty3 (by kernel_rfl)) (eqI Go.Proofs.Try.underlying3) (.cons rfl (part1 (v := .string ((gt a0 x2).Name)) ty9 (by kernel_rfl)) (part1 (v := .string ((gt a1 x2).Name)) ty9 (by kernel_rfl)) (eqS Go.Proofs.Try.underlying9) (.cons rfl (part1 (v := .int .i64 ((gt a0 x2).Time)) ty3 (by kernel_rfl)) (part1 (v := .int .i64 ((gt a1 x2).Time)) ty3 (by kernel_rfl)) (eqI Go.Proofs.Try.underlying3) (.cons rfl (part1 (v := .int .i64 ((gt a0 x2).Len)) ty3 (by kernel_rfl)) (part1 (v := .int .i64 ((gt a1 x2).Len)) ty3 (by kernel_rfl)) (eqI Go.Proofs.Try.underlying3) (.cons rfl (partN ty29 (tail_take _ _ _ _ _ (by kernel_rfl) (inv_ApiEvent _ hl8))) (partN ty29 (tail_take _ _ _ _ _ (by kernel_rfl) (inv_ApiEvent _ hl14))) (eqAr Go.Proofs.Try.underlying29 Go.Proofs.Try.underlying5 ty5 (inv_ApiEvent _ hl8) (inv_ApiEvent _ hl14)) .nil))))))) hI ?_
        refine GmT.done (by kernel_rfl) ?_
        refine Qn.then ?_
        by_cases hb16 : (!(eq_ApiEvent (gt a0 x2) (gt a1 x2))) = true
        · rw [if_pos hb16] at h1
          refine CodT.yes' (b := !(eq_ApiEvent (gt a0 x2) (gt a1 x2))) (by kernel_rfl) hb16 ?_
          refine CodT.seq ?_
          refine CodT.regionL [0] (by kernel_rfl) ?_
          refine OpsT.pures (r := []) [0] [4] (S' := [(4, .bool false)]) (by kernel_rfl) ?_
          refine OpsT.done ?_
          refine Qn.then ?_
          refine CodT.ret ?_
          refine Qn.block_ret ?_
          refine Qn.ret_then ?_
          refine Qn.ret_then ?_
          refine Qn.block_ret ?_
          refine Qn.ret_then ?_
          refine Qn.ret_then ?_
          have e := someS h1
          subst e
          try dsimp only at h0
          have e := someS h0
          subst e
          refine Qn.keep [4] (S' := [(4, .bool false)]) (by kernel_rfl) ?_
          exact post_ret (v := .bool false) (fun a ha => RunRes.run (vs := [.bool false]) (.tmp (t := 4) (by kernel_rfl) .nil) ha (by kernel_rfl)) ⟨rfl, hI⟩
        · rw [if_neg hb16] at h1
          refine CodT.no' (b := !(eq_ApiEvent (gt a0 x2) (gt a1 x2))) (by kernel_rfl) (by simpa using hb16) ?_
          refine CodT.skip ?_
          refine Qn.block_normal ?_
          refine Qn.then ?_
          refine CodT.regionL [0, 1, 2] (by kernel_rfl) ?_
          refine OpsT.pures (r := []) [0, 1, 2] [0, 1, 5] (S' := [(0, .slice A_a0 a0.length c_a0), (1, .slice A_a1 a1.length c_a1), (5, .int .i64 (wi64 (x2 + 1)))]) (by kernel_rfl) ?_
          refine OpsT.done ?_
          exact Qn.thenJ fun a ha => ⟨k, Nat.lt_succ_self k, wi64 (x2 + 1), h1, ha.keep [0, 1, 5] (by kernel_rfl), hI⟩
      · rw [if_neg hb3] at h1
        refine CodT.no' (b := decide (x2 < (a0.length : Int))) (by kernel_rfl) (by simpa using hb3) ?_
        refine CodT.exit ?_
        refine Qn.exit_then ?_
        refine Qn.exit_then ?_
        refine Qn.block ?_
        have e := someS h1
        subst e
        exact Qn.thenJ fun a ha => ⟨rfl, ha.keep [] (by kernel_rfl), hI⟩
    ·
      rintro a w ⟨rfl, ha, hI⟩
      try dsimp only at h0
      refine Qn.of ?_ ha
      refine Qn.then ?_
      refine CodT.seq ?_
      refine CodT.regionL [0] (by kernel_rfl) ?_
      refine OpsT.pures (r := []) [0] [4] (S' := [(4, .bool true)]) (by kernel_rfl) ?_
      refine OpsT.done ?_
      refine Qn.then ?_
      refine CodT.ret ?_
      have e := someS h0
      subst e
      refine Qn.keep [4] (S' := [(4, .bool true)]) (by kernel_rfl) ?_
      exact post_ret (v := .bool true) (fun a ha => RunRes.run (vs := [.bool true]) (.tmp (t := 4) (by kernel_rfl) .nil) ha (by kernel_rfl)) ⟨rfl, hI⟩
set_option maxRecDepth 100000 in
set_option maxHeartbeats 4000000 in
/-- cenotaph/sha.Same -/
theorem c17 (w0 w : World) (Z : Hp) (A : HP) (hI : Inv w0 Z w A) (a0 : ByteArray) (a1 : ByteArray) (r : Bool) (h0 : sha_Same a0 a1 = some r) :
    Calls prog 17 #[.string a0, .string a1] w (fun e w' => e = .returned (.bool r) ∧ Inv w0 Z w' A) := by
  have e4 := calls_intro (R := (fun e w' => e = .returned (.bool r) ∧ Inv w0 Z w' A)) (w := w) (args := [.string a0, .string a1]) (fn := Go.Proofs.Try.f17) 15 Go.Proofs.Try.func17 (by rfl) Go.Proofs.Try.ntmps17 (by kernel_rfl)
  refine e4 ?_
  clear e4
  unfold sha_Same at h0
  refine CodT.seq ?_
  refine CodT.regionL [0] (by kernel_rfl) ?_
  refine OpsT.pures (r := []) [0] [0, 1] (S' := [(0, .string a0), (1, .string a1)]) (by kernel_rfl) ?_
  refine OpsT.done ?_
  refine Qn.then ?_
  obtain ⟨r1, h1, h0⟩ := bindS h0
  refine CodT.meet (fun a w => ∃ (x1 : Bool), x1 = r1 ∧ Fr 15 [(4, .bool x1)] a ∧ Inv w0 Z w A) ?_ ?_
  ·
    refine CodT.regionL [0, 1, 2, 3, 4, 5, 6, 7, 8, 9, 10] (by kernel_rfl) ?_
    refine OpsT.pures (r := [4, 5, 6, 7, 8, 9, 10]) [0, 1, 2, 3] [0, 1, 8] (S' := [(0, .string a0), (1, .string a1), (8, .bool (!(seq a0 a1)))]) (by kernel_rfl) ?_
    by_cases hb2 : (!(seq a0 a1)) = true
    · rw [if_pos hb2] at h1
      refine OpsT.keep [0, 1, 8] (S' := [(0, .string a0), (1, .string a1), (8, .bool true)]) (by simp only [hb2]; kernel_rfl) ?_
      refine OpsT.pures (r := [5, 6, 7, 8, 9, 10]) [4] [1, 8, 9] (S' := [(1, .string a1), (8, .bool true), (9, .string a0)]) (by kernel_rfl) ?_
      obtain ⟨y4, hc3, h1⟩ := bindS h1
      try dsimp only at h1
      refine OpsT.cons (Does.call (d := some 10) (n := 16) (vs := [.string a0]) (by kernel_rfl) en16 (c16 w0 w _ _ hI a0 _ hc3) ?_)
      rintro e w ⟨rfl, hl5, hI⟩
      refine ⟨_, rfl, ?_⟩
      refine OpsT.pures (r := [7, 8, 9, 10]) [6] [8, 10, 11] (S' := [(8, .bool true), (10, .agg (cA (Value.int .u8) y4).toArray), (11, .string a1)]) (by kernel_rfl) ?_
      obtain ⟨y7, hc6, h1⟩ := bindS h1
      try dsimp only at h1
      refine OpsT.cons (Does.call (d := some 12) (n := 16) (vs := [.string a1]) (by kernel_rfl) en16 (c16 w0 w _ _ hI a1 _ hc6) ?_)
      rintro e w ⟨rfl, hl8, hI⟩
      refine ⟨_, rfl, ?_⟩
      refine OpsT.cons (Does.yi (Yl.eqlA (k := .u8) (d := 13) (T := 29) (xs := y4) (ys := y7) (by kernel_rfl) Go.Proofs.Try.underlying29 (by kernel_rfl) Go.Proofs.Try.underlying5 ty5 hl5 hl8) hI ?_)
      refine OpsT.pures (r := []) [9, 10] [4] (S' := [(4, .bool (eqA y4 y7))]) (by kernel_rfl) ?_
      refine OpsT.done ?_
      have e := someS h1
      subst e
      exact Qn.thenJ fun a ha => ⟨eqA y4 y7, rfl, ha.keep [4] (by kernel_rfl), hI⟩
    · rw [if_neg hb2] at h1
      have hb2 : (!(seq a0 a1)) = false := by simpa using hb2
      refine OpsT.keep [0, 1, 8] (S' := [(0, .string a0), (1, .string a1), (8, .bool false)]) (by simp only [hb2]; kernel_rfl) ?_
      refine OpsT.pures (r := []) [4, 5, 6, 7, 8, 9, 10] [4] (S' := [(4, .bool false)]) (by kernel_rfl) ?_
      refine OpsT.done ?_
      have e := someS h1
      subst e
      exact Qn.thenJ fun a ha => ⟨false, rfl, ha.keep [4] (by kernel_rfl), hI⟩
  ·
    rintro a w ⟨x1, rfl, ha, hI⟩
    try dsimp only at h0
    refine CodT.of ?_ ha
    refine CodT.ret ?_
    have e := someS h0
    subst e
    refine Qn.keep [4] (S' := [(4, .bool x1)]) (by kernel_rfl) ?_
    exact post_ret (v := .bool x1) (fun a ha => RunRes.run (vs := [.bool x1]) (.tmp (t := 4) (by kernel_rfl) .nil) ha (by kernel_rfl)) ⟨rfl, hI⟩
end Go.Cen
