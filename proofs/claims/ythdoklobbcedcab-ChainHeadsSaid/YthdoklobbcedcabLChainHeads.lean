/- The walk of the law ChainHeads, printed by a program of ours. -/
import Derived.Test.YthdoklobbcedcabWx4
set_option linter.unusedVariables false
set_option linter.unusedSimpArgs false
namespace Go.Cen
set_option maxRecDepth 100000 in
set_option maxHeartbeats 4000000 in
/-- cenotaph/cenotaphlaw06.ChainHeads -/
theorem c9 (w0 w : World) (Z : Hp) (A : HP) (hI : Inv w0 Z w A) (a0 : (List Int)) (hl_a0 : a0.length = 32) (A_a1 : Option Addr) (c_a1 : Nat) (a1 : (List ApiEvent)) (hr_a1 : RdS Z c_ApiEvent 37 A_a1 c_a1 a1) (a2 : Int) (r : Bool) (h0 : law06_ChainHeads a0 a1 a2 = some r) :
    Calls prog 9 #[.agg (cA (Value.int .u8) a0).toArray, .slice A_a1 a1.length c_a1, .int .i64 a2] w (fun e w' => e = .returned (.bool r) ∧ Inv w0 Z w' A) := by
  have e4 := calls_intro (R := (fun e w' => e = .returned (.bool r) ∧ Inv w0 Z w' A)) (w := w) (args := [.agg (cA (Value.int .u8) a0).toArray, .slice A_a1 a1.length c_a1, .int .i64 a2]) (fn := Go.Proofs.Try.f9) 111 Go.Proofs.Try.func9 (by rfl) Go.Proofs.Try.ntmps9 (by kernel_rfl)
  refine e4 ?_
  clear e4
  unfold law06_ChainHeads at h0
  refine CodT.seq ?_
  refine CodT.regionL [0, 1] (by kernel_rfl) ?_
  refine OpsT.cons (Does.boxL (d := 3) (T := 55) (v := .agg (cA (Value.int .u8) a0).toArray) (cA (Value.int .u8) a0) (by kernel_rfl) hI (by kernel_rfl) ?_)
  intro b1 w hI
  refine OpsT.pures (r := []) [1] [1, 2, 3] (S' := [(1, .slice A_a1 a1.length c_a1), (2, .int .i64 a2), (3, .pointer (some ⟨b1, 0, none⟩))]) (by kernel_rfl) ?_
  refine OpsT.done ?_
  refine Qn.then ?_
  refine CodT.seq ?_
  refine CodT.regionL [0, 1] (by kernel_rfl) ?_
  obtain ⟨y3, hc2, h0⟩ := bindS h0
  try dsimp only at h0
  refine OpsT.cons (Does.call (d := some 20) (n := 25) (vs := []) (by kernel_rfl) en25 (c25 w0 w _ _ hI _ hc2) ?_)
  rintro e w ⟨rfl, hI⟩
  refine ⟨_, rfl, ?_⟩
  refine OpsT.pures (r := []) [1] [1, 2, 3, 7] (S' := [(1, .slice A_a1 a1.length c_a1), (2, .int .i64 a2), (3, .pointer (some ⟨b1, 0, none⟩)), (7, .bool y3)]) (by kernel_rfl) ?_
  refine OpsT.done ?_
  refine Qn.then ?_
  refine CodT.seq ?_
  refine CodT.seq ?_
  refine CodT.regionL [0, 1] (by kernel_rfl) ?_
  refine OpsT.pures (r := []) [0, 1] [1, 2, 3, 7, 22] (S' := [(1, .slice A_a1 a1.length c_a1), (2, .int .i64 a2), (3, .pointer (some ⟨b1, 0, none⟩)), (7, .bool y3), (22, .bool (!y3))]) (by kernel_rfl) ?_
  refine OpsT.done ?_
  refine Qn.then ?_
  by_cases hb4 : (!y3) = true
  · rw [if_pos hb4] at h0
    refine CodT.yes' (b := !y3) (by kernel_rfl) hb4 ?_
    refine CodT.seq ?_
    refine CodT.regionL [0] (by kernel_rfl) ?_
    refine OpsT.pures (r := []) [0] [6] (S' := [(6, .bool false)]) (by kernel_rfl) ?_
    refine OpsT.done ?_
    refine Qn.then ?_
    refine CodT.ret ?_
    refine Qn.ret_then ?_
    have hI := hI.drop
    have e := someS h0
    subst e
    refine Qn.keep [6] (S' := [(6, .bool false)]) (by kernel_rfl) ?_
    exact post_ret (v := .bool false) (fun a ha => RunRes.run (vs := [.bool false]) (.tmp (t := 6) (by kernel_rfl) .nil) ha (by kernel_rfl)) ⟨rfl, hI⟩
  · rw [if_neg hb4] at h0
    refine CodT.no' (b := !y3) (by kernel_rfl) (by simpa using hb4) ?_
    refine CodT.skip ?_
    refine Qn.then ?_
    refine CodT.seq ?_
    refine CodT.regionL [0, 1, 2] (by kernel_rfl) ?_
    refine OpsT.pures (r := [1, 2]) [0] [1, 2, 3, 7, 23] (S' := [(1, .slice A_a1 a1.length c_a1), (2, .int .i64 a2), (3, .pointer (some ⟨b1, 0, none⟩)), (7, .bool y3), (23, .slice A_a1 a1.length c_a1)]) (by kernel_rfl) ?_
    obtain ⟨y6, hc5, h0⟩ := bindS h0
    try dsimp only at h0
    refine OpsT.cons (Does.call (d := some 24) (n := 26) (vs := [.slice A_a1 a1.length c_a1]) (by kernel_rfl) en26 (c26 w0 w _ _ hI A_a1 c_a1 a1 hr_a1 _ hc5) ?_)
    rintro e w ⟨rfl, hI⟩
    refine ⟨_, rfl, ?_⟩
    refine OpsT.pures (r := []) [2] [1, 2, 3, 7, 8] (S' := [(1, .slice A_a1 a1.length c_a1), (2, .int .i64 a2), (3, .pointer (some ⟨b1, 0, none⟩)), (7, .bool y3), (8, .bool y6)]) (by kernel_rfl) ?_
    refine OpsT.done ?_
    refine Qn.then ?_
    refine CodT.seq ?_
    refine CodT.seq ?_
    refine CodT.regionL [0, 1] (by kernel_rfl) ?_
    refine OpsT.pures (r := []) [0, 1] [1, 2, 3, 7, 26] (S' := [(1, .slice A_a1 a1.length c_a1), (2, .int .i64 a2), (3, .pointer (some ⟨b1, 0, none⟩)), (7, .bool y3), (26, .bool (!y6))]) (by kernel_rfl) ?_
    refine OpsT.done ?_
    refine Qn.then ?_
    by_cases hb7 : (!y6) = true
    · rw [if_pos hb7] at h0
      refine CodT.yes' (b := !y6) (by kernel_rfl) hb7 ?_
      refine CodT.seq ?_
      refine CodT.regionL [0, 1] (by kernel_rfl) ?_
      refine OpsT.pures (r := []) [0, 1] [6] (S' := [(6, .bool y3)]) (by kernel_rfl) ?_
      refine OpsT.done ?_
      refine Qn.then ?_
      refine CodT.ret ?_
      refine Qn.ret_then ?_
      have hI := hI.drop
      have e := someS h0
      subst e
      refine Qn.keep [6] (S' := [(6, .bool y3)]) (by kernel_rfl) ?_
      exact post_ret (v := .bool y3) (fun a ha => RunRes.run (vs := [.bool y3]) (.tmp (t := 6) (by kernel_rfl) .nil) ha (by kernel_rfl)) ⟨rfl, hI⟩
    · rw [if_neg hb7] at h0
      refine CodT.no' (b := !y6) (by kernel_rfl) (by simpa using hb7) ?_
      refine CodT.skip ?_
      refine Qn.then ?_
      refine CodT.seq ?_
      refine CodT.regionL [0, 1, 2, 3, 4, 5, 6, 7, 8] (by kernel_rfl) ?_
      refine OpsT.cons (Does.yi (Yl.load (d := 29) (T := 55) (v := .agg (cA (Value.int .u8) a0).toArray) (by kernel_rfl) (ldBN ty55 (l := cA (Value.int .u8) a0) (o := 0) (cs := cA (Value.int .u8) a0) (ent_refl _) ((cA_length _ _).trans hl_a0) (whole _ _ ((cA_length _ _).trans hl_a0)))) hI ?_)
      refine OpsT.pures (r := [2, 3, 4, 5, 6, 7, 8]) [1] [1, 2, 3, 7, 29, 30] (S' := [(1, .slice A_a1 a1.length c_a1), (2, .int .i64 a2), (3, .pointer (some ⟨b1, 0, none⟩)), (7, .bool y3), (29, .agg (cA (Value.int .u8) a0).toArray), (30, .slice A_a1 a1.length c_a1)]) (by kernel_rfl) ?_
      obtain ⟨⟨y9, y11⟩, hc8, h0⟩ := bindS h0
      try dsimp only at h0
      refine OpsT.cons (Does.call (d := some 31) (n := 27) (vs := [.agg (cA (Value.int .u8) a0).toArray, .slice A_a1 a1.length c_a1]) (by kernel_rfl) en27 (c27 w0 w _ _ hI a0 hl_a0 A_a1 c_a1 a1 hr_a1 _ hc8) ?_)
      rintro e w ⟨rfl, hl10, hI⟩
      refine ⟨_, rfl, ?_⟩
      refine OpsT.pures (r := [6, 7, 8]) [3, 4, 5] [1, 2, 3, 7, 32, 33] (S' := [(1, .slice A_a1 a1.length c_a1), (2, .int .i64 a2), (3, .pointer (some ⟨b1, 0, none⟩)), (7, .bool y3), (32, .agg (cA (Value.int .u8) y9).toArray), (33, .bool y11)]) (by kernel_rfl) ?_
      refine OpsT.cons (Does.allocL (d := 9) (T := 55) (cA (Value.int .u8) (List.replicate 32 (0 : Int))) (by kernel_rfl) ty55 hI (by kernel_rfl) ?_)
      intro b12 w hI
      refine OpsT.cons (Does.storeAll (T := 55) (b := b12) (n := 32) (xs := (List.replicate 32 (0 : Int))) (ys := y9) (by kernel_rfl) ty55 hI (fun _ => rfl) (by kernel_rfl) hl10 ?_)
      intro w hI
      refine OpsT.pures (r := []) [8] [1, 2, 3, 7, 9, 10] (S' := [(1, .slice A_a1 a1.length c_a1), (2, .int .i64 a2), (3, .pointer (some ⟨b1, 0, none⟩)), (7, .bool y3), (9, .pointer (some ⟨b12, 0, none⟩)), (10, .bool y11)]) (by kernel_rfl) ?_
      refine OpsT.done ?_
      refine Qn.then ?_
      refine CodT.seq ?_
      refine CodT.regionL [0, 1, 2, 3, 4, 5, 6, 7, 8] (by kernel_rfl) ?_
      refine OpsT.cons (Does.yi (Yl.load (d := 35) (T := 55) (v := .agg (cA (Value.int .u8) a0).toArray) (by kernel_rfl) (ldBN ty55 (l := cA (Value.int .u8) a0) (o := 0) (cs := cA (Value.int .u8) a0) (pick2 _ _ _) ((cA_length _ _).trans hl_a0) (whole _ _ ((cA_length _ _).trans hl_a0)))) hI ?_)
      refine OpsT.pures (r := [2, 3, 4, 5, 6, 7, 8]) [1] [1, 2, 3, 7, 9, 10, 35, 36] (S' := [(1, .slice A_a1 a1.length c_a1), (2, .int .i64 a2), (3, .pointer (some ⟨b1, 0, none⟩)), (7, .bool y3), (9, .pointer (some ⟨b12, 0, none⟩)), (10, .bool y11), (35, .agg (cA (Value.int .u8) a0).toArray), (36, .slice A_a1 a1.length c_a1)]) (by kernel_rfl) ?_
      obtain ⟨⟨y14, y16⟩, hc13, h0⟩ := bindS h0
      try dsimp only at h0
      refine OpsT.cons (Does.call (d := some 37) (n := 28) (vs := [.agg (cA (Value.int .u8) a0).toArray, .slice A_a1 a1.length c_a1]) (by kernel_rfl) en28 (c28 w0 w _ _ hI a0 hl_a0 A_a1 c_a1 a1 hr_a1 _ hc13) ?_)
      rintro e w ⟨rfl, hl15, hI⟩
      refine ⟨_, rfl, ?_⟩
      refine OpsT.pures (r := [6, 7, 8]) [3, 4, 5] [1, 2, 3, 7, 9, 10, 38, 39] (S' := [(1, .slice A_a1 a1.length c_a1), (2, .int .i64 a2), (3, .pointer (some ⟨b1, 0, none⟩)), (7, .bool y3), (9, .pointer (some ⟨b12, 0, none⟩)), (10, .bool y11), (38, .agg (cA (Value.int .u8) y14).toArray), (39, .bool y16)]) (by kernel_rfl) ?_
      refine OpsT.cons (Does.allocL (d := 11) (T := 55) (cA (Value.int .u8) (List.replicate 32 (0 : Int))) (by kernel_rfl) ty55 hI (by kernel_rfl) ?_)
      intro b17 w hI
      refine OpsT.cons (Does.storeAll (T := 55) (b := b17) (n := 32) (xs := (List.replicate 32 (0 : Int))) (ys := y14) (by kernel_rfl) ty55 hI (fun _ => rfl) (by kernel_rfl) hl15 ?_)
      intro w hI
      refine OpsT.pures (r := []) [8] [1, 2, 3, 7, 9, 10, 11, 12] (S' := [(1, .slice A_a1 a1.length c_a1), (2, .int .i64 a2), (3, .pointer (some ⟨b1, 0, none⟩)), (7, .bool y3), (9, .pointer (some ⟨b12, 0, none⟩)), (10, .bool y11), (11, .pointer (some ⟨b17, 0, none⟩)), (12, .bool y16)]) (by kernel_rfl) ?_
      refine OpsT.done ?_
      refine Qn.then ?_
      refine CodT.seq ?_
      refine CodT.regionL [0, 1, 2] (by kernel_rfl) ?_
      refine OpsT.pures (r := [1, 2]) [0] [1, 2, 3, 7, 9, 10, 11, 12, 40] (S' := [(1, .slice A_a1 a1.length c_a1), (2, .int .i64 a2), (3, .pointer (some ⟨b1, 0, none⟩)), (7, .bool y3), (9, .pointer (some ⟨b12, 0, none⟩)), (10, .bool y11), (11, .pointer (some ⟨b17, 0, none⟩)), (12, .bool y16), (40, .slice A_a1 a1.length c_a1)]) (by kernel_rfl) ?_
      obtain ⟨y19, hc18, h0⟩ := bindS h0
      try dsimp only at h0
      refine OpsT.cons (Does.call (d := some 41) (n := 29) (vs := [.slice A_a1 a1.length c_a1]) (by kernel_rfl) en29 (c29 w0 w _ _ hI A_a1 c_a1 a1 hr_a1 _ hc18) ?_)
      rintro e w ⟨A20, cp21, rfl, hI⟩
      refine ⟨_, rfl, ?_⟩
      refine OpsT.pures (r := []) [2] [1, 2, 3, 7, 9, 10, 11, 12, 13] (S' := [(1, .slice A_a1 a1.length c_a1), (2, .int .i64 a2), (3, .pointer (some ⟨b1, 0, none⟩)), (7, .bool y3), (9, .pointer (some ⟨b12, 0, none⟩)), (10, .bool y11), (11, .pointer (some ⟨b17, 0, none⟩)), (12, .bool y16), (13, .slice A20 y19.length cp21)]) (by kernel_rfl) ?_
      refine OpsT.done ?_
      refine Qn.then ?_
      refine CodT.seq ?_
      refine CodT.regionL [0, 1, 2] (by kernel_rfl) ?_
      refine OpsT.pures (r := [1, 2]) [0] [1, 2, 3, 7, 9, 10, 11, 12, 13, 42] (S' := [(1, .slice A_a1 a1.length c_a1), (2, .int .i64 a2), (3, .pointer (some ⟨b1, 0, none⟩)), (7, .bool y3), (9, .pointer (some ⟨b12, 0, none⟩)), (10, .bool y11), (11, .pointer (some ⟨b17, 0, none⟩)), (12, .bool y16), (13, .slice A20 y19.length cp21), (42, .slice A_a1 a1.length c_a1)]) (by kernel_rfl) ?_
      obtain ⟨y23, hc22, h0⟩ := bindS h0
      try dsimp only at h0
      refine OpsT.cons (Does.call (d := some 43) (n := 30) (vs := [.slice A_a1 a1.length c_a1]) (by kernel_rfl) en30 (c30 w0 w _ _ hI A_a1 c_a1 a1 hr_a1 _ hc22) ?_)
      rintro e w ⟨A24, cp25, rfl, hI⟩
      refine ⟨_, rfl, ?_⟩
      refine OpsT.pures (r := []) [2] [1, 2, 3, 7, 9, 10, 11, 12, 13, 14] (S' := [(1, .slice A_a1 a1.length c_a1), (2, .int .i64 a2), (3, .pointer (some ⟨b1, 0, none⟩)), (7, .bool y3), (9, .pointer (some ⟨b12, 0, none⟩)), (10, .bool y11), (11, .pointer (some ⟨b17, 0, none⟩)), (12, .bool y16), (13, .slice A20 y19.length cp21), (14, .slice A24 y23.length cp25)]) (by kernel_rfl) ?_
      refine OpsT.done ?_
      refine Qn.then ?_
      refine CodT.seq ?_
      obtain ⟨r1, h1, h0⟩ := bindS h0
      refine CodT.meet (fun a w => ∃ (x26 : Bool), x26 = r1 ∧ Fr 111 [(1, .slice A_a1 a1.length c_a1), (2, .int .i64 a2), (3, .pointer (some ⟨b1, 0, none⟩)), (7, .bool y3), (13, .slice A20 y19.length cp21), (14, .slice A24 y23.length cp25), (58, .bool x26)] a ∧ Inv w0 Z w (star (pt b1 (.cells (cA (Value.int .u8) a0).toArray 55 (0, 0))) (star (ownS 55 (cA (Value.int .u8)) 32 A24 cp25 y23) (star (ownS 55 (cA (Value.int .u8)) 32 A20 cp21 y19) A)))) ?_ ?_
      ·
        refine CodT.regionL [0, 1, 2, 3, 4, 5, 6, 7, 8, 9, 10, 11, 12, 13, 14] (by kernel_rfl) ?_
        refine OpsT.pures (r := [6, 7, 8, 9, 10, 11, 12, 13, 14]) [0, 1, 2, 3, 4, 5] [1, 2, 3, 7, 9, 10, 11, 12, 13, 14, 49] (S' := [(1, .slice A_a1 a1.length c_a1), (2, .int .i64 a2), (3, .pointer (some ⟨b1, 0, none⟩)), (7, .bool y3), (9, .pointer (some ⟨b12, 0, none⟩)), (10, .bool y11), (11, .pointer (some ⟨b17, 0, none⟩)), (12, .bool y16), (13, .slice A20 y19.length cp21), (14, .slice A24 y23.length cp25), (49, .bool ((y19.length : Int) != (y23.length : Int)))]) (by kernel_rfl) ?_
        by_cases hb27 : ((y19.length : Int) != (y23.length : Int)) = true
        · rw [if_pos hb27] at h1
          refine OpsT.keep [1, 2, 3, 7, 9, 10, 11, 12, 13, 14, 49] (S' := [(1, .slice A_a1 a1.length c_a1), (2, .int .i64 a2), (3, .pointer (some ⟨b1, 0, none⟩)), (7, .bool y3), (9, .pointer (some ⟨b12, 0, none⟩)), (10, .bool y11), (11, .pointer (some ⟨b17, 0, none⟩)), (12, .bool y16), (13, .slice A20 y19.length cp21), (14, .slice A24 y23.length cp25), (49, .bool true)]) (by (try simp only [hb27]); kernel_rfl) ?_
          refine OpsT.pures (r := []) [6, 7, 8, 9, 10, 11, 12, 13, 14] [1, 2, 3, 7, 13, 14, 58] (S' := [(1, .slice A_a1 a1.length c_a1), (2, .int .i64 a2), (3, .pointer (some ⟨b1, 0, none⟩)), (7, .bool y3), (13, .slice A20 y19.length cp21), (14, .slice A24 y23.length cp25), (58, .bool true)]) (by kernel_rfl) ?_
          refine OpsT.done ?_
          have hI := hI.mono (pick3 _ _ _ _)
          have hI := hI.drop
          have hI := hI.mono (pick3 _ _ _ _)
          have hI := hI.drop
          have hI := hI.mono (pick2 _ _ _)
          have hI := hI.mono (pick2 _ _ _)
          have hI := hI.mono (pick3 _ _ _ _)
          have e := someS h1
          subst e
          exact Qn.thenJ fun a ha => ⟨true, rfl, ha.keep [1, 2, 3, 7, 13, 14, 58] (by kernel_rfl), hI⟩
        · rw [if_neg hb27] at h1
          have hb27 : ((y19.length : Int) != (y23.length : Int)) = false := by simpa using hb27
          refine OpsT.keep [1, 2, 3, 7, 9, 10, 11, 12, 13, 14, 49] (S' := [(1, .slice A_a1 a1.length c_a1), (2, .int .i64 a2), (3, .pointer (some ⟨b1, 0, none⟩)), (7, .bool y3), (9, .pointer (some ⟨b12, 0, none⟩)), (10, .bool y11), (11, .pointer (some ⟨b17, 0, none⟩)), (12, .bool y16), (13, .slice A20 y19.length cp21), (14, .slice A24 y23.length cp25), (49, .bool false)]) (by (try simp only [hb27]); kernel_rfl) ?_
          refine OpsT.cons (Does.yi (Yl.load (d := 50) (T := 55) (v := .agg (cA (Value.int .u8) y9).toArray) (by kernel_rfl) (ldBN ty55 (l := cA (Value.int .u8) y9) (o := 0) (cs := cA (Value.int .u8) y9) (pick4 _ _ _ _ _) ((cA_length _ _).trans hl10) (whole _ _ ((cA_length _ _).trans hl10)))) hI ?_)
          refine OpsT.cons (Does.yi (Yl.load (d := 51) (T := 55) (v := .agg (cA (Value.int .u8) y14).toArray) (by kernel_rfl) (ldBN ty55 (l := cA (Value.int .u8) y14) (o := 0) (cs := cA (Value.int .u8) y14) (pick3 _ _ _ _) ((cA_length _ _).trans hl15) (whole _ _ ((cA_length _ _).trans hl15)))) hI ?_)
          refine OpsT.cons (Does.yi (Yl.neqA (k := .u8) (d := 52) (T := 55) (xs := y9) (ys := y14) (by kernel_rfl) Go.Proofs.Try.underlying55 (by kernel_rfl) Go.Proofs.Try.underlying5 ty5 hl10 hl15) hI ?_)
          refine OpsT.pures (r := [11, 12, 13, 14]) [9, 10] [1, 2, 3, 7, 10, 12, 13, 14, 54] (S' := [(1, .slice A_a1 a1.length c_a1), (2, .int .i64 a2), (3, .pointer (some ⟨b1, 0, none⟩)), (7, .bool y3), (10, .bool y11), (12, .bool y16), (13, .slice A20 y19.length cp21), (14, .slice A24 y23.length cp25), (54, .bool (!(eqA y9 y14)))]) (by kernel_rfl) ?_
          by_cases hb28 : (!(eqA y9 y14)) = true
          · rw [if_pos hb28] at h1
            refine OpsT.keep [1, 2, 3, 7, 10, 12, 13, 14, 54] (S' := [(1, .slice A_a1 a1.length c_a1), (2, .int .i64 a2), (3, .pointer (some ⟨b1, 0, none⟩)), (7, .bool y3), (10, .bool y11), (12, .bool y16), (13, .slice A20 y19.length cp21), (14, .slice A24 y23.length cp25), (54, .bool true)]) (by (try simp only [hb28]); kernel_rfl) ?_
            refine OpsT.pures (r := []) [11, 12, 13, 14] [1, 2, 3, 7, 13, 14, 58] (S' := [(1, .slice A_a1 a1.length c_a1), (2, .int .i64 a2), (3, .pointer (some ⟨b1, 0, none⟩)), (7, .bool y3), (13, .slice A20 y19.length cp21), (14, .slice A24 y23.length cp25), (58, .bool true)]) (by kernel_rfl) ?_
            refine OpsT.done ?_
            have hI := hI.mono (pick3 _ _ _ _)
            have hI := hI.drop
            have hI := hI.mono (pick3 _ _ _ _)
            have hI := hI.drop
            have hI := hI.mono (pick2 _ _ _)
            have hI := hI.mono (pick2 _ _ _)
            have hI := hI.mono (pick3 _ _ _ _)
            have e := someS h1
            subst e
            exact Qn.thenJ fun a ha => ⟨true, rfl, ha.keep [1, 2, 3, 7, 13, 14, 58] (by kernel_rfl), hI⟩
          · rw [if_neg hb28] at h1
            have hb28 : (!(eqA y9 y14)) = false := by simpa using hb28
            refine OpsT.keep [1, 2, 3, 7, 10, 12, 13, 14, 54] (S' := [(1, .slice A_a1 a1.length c_a1), (2, .int .i64 a2), (3, .pointer (some ⟨b1, 0, none⟩)), (7, .bool y3), (10, .bool y11), (12, .bool y16), (13, .slice A20 y19.length cp21), (14, .slice A24 y23.length cp25), (54, .bool false)]) (by (try simp only [hb28]); kernel_rfl) ?_
            refine OpsT.pures (r := []) [11, 12, 13, 14] [1, 2, 3, 7, 13, 14, 58] (S' := [(1, .slice A_a1 a1.length c_a1), (2, .int .i64 a2), (3, .pointer (some ⟨b1, 0, none⟩)), (7, .bool y3), (13, .slice A20 y19.length cp21), (14, .slice A24 y23.length cp25), (58, .bool (y11 != y16))]) (by kernel_rfl) ?_
            refine OpsT.done ?_
            have hI := hI.mono (pick3 _ _ _ _)
            have hI := hI.drop
            have hI := hI.mono (pick3 _ _ _ _)
            have hI := hI.drop
            have hI := hI.mono (pick2 _ _ _)
            have hI := hI.mono (pick2 _ _ _)
            have hI := hI.mono (pick3 _ _ _ _)
            have e := someS h1
            subst e
            exact Qn.thenJ fun a ha => ⟨y11 != y16, rfl, ha.keep [1, 2, 3, 7, 13, 14, 58] (by kernel_rfl), hI⟩
      ·
        rintro a w ⟨x26, rfl, ha, hI⟩
        try dsimp only at h0
        refine CodT.of ?_ ha
        by_cases hb29 : x26 = true
        · rw [if_pos hb29] at h0
          refine CodT.yes' (b := x26) (by kernel_rfl) hb29 ?_
          refine CodT.seq ?_
          refine CodT.regionL [0] (by kernel_rfl) ?_
          refine OpsT.pures (r := []) [0] [6] (S' := [(6, .bool false)]) (by kernel_rfl) ?_
          refine OpsT.done ?_
          refine Qn.then ?_
          refine CodT.ret ?_
          refine Qn.ret_then ?_
          have hI := hI.drop
          have hI := hI.drop
          have hI := hI.drop
          have e := someS h0
          subst e
          refine Qn.keep [6] (S' := [(6, .bool false)]) (by kernel_rfl) ?_
          exact post_ret (v := .bool false) (fun a ha => RunRes.run (vs := [.bool false]) (.tmp (t := 6) (by kernel_rfl) .nil) ha (by kernel_rfl)) ⟨rfl, hI⟩
        · rw [if_neg hb29] at h0
          refine CodT.no' (b := x26) (by kernel_rfl) (by simpa using hb29) ?_
          refine CodT.skip ?_
          refine Qn.then ?_
          refine CodT.seq ?_
          refine CodT.seq ?_
          refine CodT.regionL [0] (by kernel_rfl) ?_
          refine OpsT.pures (r := []) [0] [1, 2, 3, 7, 13, 14, 15] (S' := [(1, .slice A_a1 a1.length c_a1), (2, .int .i64 a2), (3, .pointer (some ⟨b1, 0, none⟩)), (7, .bool y3), (13, .slice A20 y19.length cp21), (14, .slice A24 y23.length cp25), (15, .int .i64 0)]) (by kernel_rfl) ?_
          refine OpsT.done ?_
          refine Qn.then ?_
          obtain ⟨r1, h1, h0⟩ := bindS h0
          refine CodT.meet1 (fun a w => .inr () = r1 ∧ Fr 111 [(1, .slice A_a1 a1.length c_a1), (2, .int .i64 a2), (3, .pointer (some ⟨b1, 0, none⟩)), (7, .bool y3)] a ∧ Inv w0 Z w (star (pt b1 (.cells (cA (Value.int .u8) a0).toArray 55 (0, 0))) A)) ?_ ?_
          ·
            refine CodT.block ?_
            refine (fun a ha => wp_loopN (fun k a w => ∃ (x30 : Int), law06_ChainHeads.l0 y19 y23 k x30 = some r1 ∧ Fr 111 [(1, .slice A_a1 a1.length c_a1), (2, .int .i64 a2), (3, .pointer (some ⟨b1, 0, none⟩)), (7, .bool y3), (13, .slice A20 y19.length cp21), (14, .slice A24 y23.length cp25), (15, .int .i64 x30)] a ∧ Inv w0 Z w (star (pt b1 (.cells (cA (Value.int .u8) a0).toArray 55 (0, 0))) (star (ownS 55 (cA (Value.int .u8)) 32 A24 cp25 y23) (star (ownS 55 (cA (Value.int .u8)) 32 A20 cp21 y19) A)))) ?_ FU a w ⟨0, h1, ha.keep [1, 2, 3, 7, 13, 14, 15] (by kernel_rfl), hI⟩)
            clear h1 hI
            rintro k a w ⟨x30, h1, ha, hI⟩
            rcases k with _ | k
            · cases h1
            simp only [law06_ChainHeads.l0] at h1
            refine CodT.of ?_ ha
            refine CodT.seq ?_
            refine CodT.seq ?_
            refine CodT.regionL [0, 1, 2, 3] (by kernel_rfl) ?_
            refine OpsT.pures (r := []) [0, 1, 2, 3] [1, 2, 3, 7, 13, 14, 15, 62] (S' := [(1, .slice A_a1 a1.length c_a1), (2, .int .i64 a2), (3, .pointer (some ⟨b1, 0, none⟩)), (7, .bool y3), (13, .slice A20 y19.length cp21), (14, .slice A24 y23.length cp25), (15, .int .i64 x30), (62, .bool (decide (x30 < (y19.length : Int))))]) (by kernel_rfl) ?_
            refine OpsT.done ?_
            refine Qn.then ?_
            by_cases hb31 : (decide (x30 < (y19.length : Int))) = true
            · rw [if_pos hb31] at h1
              refine CodT.yes' (b := decide (x30 < (y19.length : Int))) (by kernel_rfl) hb31 ?_
              refine CodT.skip ?_
              refine Qn.then ?_
              refine CodT.seq ?_
              refine CodT.block ?_
              refine CodT.seq ?_
              refine CodT.drawI (n := 9) [] (by kernel_rfl) (by kernel_rfl) hI ?_
              intro w hI
              refine GmT.p' 0 65 (.slice A20 y19.length cp21) (by kernel_rfl) (by kernel_rfl) ?_
              refine GmT.p' 1 66 (.int .i64 x30) (by kernel_rfl) (by kernel_rfl) ?_
              refine GmT.p' 4 69 (.slice A24 y23.length cp25) (by kernel_rfl) (by kernel_rfl) ?_
              refine GmT.p' 5 70 (.int .i64 x30) (by kernel_rfl) (by kernel_rfl) ?_
              obtain ⟨hg32, h1⟩ := guardS h1
              obtain ⟨g33, hA34, hr35, hl36⟩ := ownS_get (hI.mono (pick3 _ _ _ _)) hg32.1 hg32.2
              refine GmT.r (i := 2) 2 (by kernel_rfl) (by kernel_rfl) (Yl.indexSlice (d := 67) (T := 60) (cc := cp21) (k := .i64) (j := x30) (g := g33) (o := 0) (by kernel_rfl) Go.Proofs.Try.underlying60 ty55 hA34 hg32.1 hg32.2) hI ?_
              refine GmT.r (i := 3) 2 (by kernel_rfl) (by kernel_rfl) (Yl.load (d := 68) (T := 55) (v := .agg (cA (Value.int .u8) (gt y19 x30)).toArray) (by kernel_rfl) (ldRN ty55 (cs := cA (Value.int .u8) (gt y19 x30)) 0 (fun w hC => hr35 w0 w _ (hC.mono (pick3 _ _ _ _))) ((cA_length _ _).trans ((cA_length _ _).symm.trans hl36)) (whole _ _ ((cA_length _ _).trans ((cA_length _ _).symm.trans hl36))))) hI ?_
              obtain ⟨hg37, h1⟩ := guardS h1
              obtain ⟨g38, hA39, hr40, hl41⟩ := ownS_get (hI.mono (pick2 _ _ _)) hg37.1 hg37.2
              refine GmT.r (i := 6) 2 (by kernel_rfl) (by kernel_rfl) (Yl.indexSlice (d := 71) (T := 60) (cc := cp25) (k := .i64) (j := x30) (g := g38) (o := 0) (by kernel_rfl) Go.Proofs.Try.underlying60 ty55 hA39 hg37.1 hg37.2) hI ?_
              refine GmT.r (i := 7) 2 (by kernel_rfl) (by kernel_rfl) (Yl.load (d := 72) (T := 55) (v := .agg (cA (Value.int .u8) (gt y23 x30)).toArray) (by kernel_rfl) (ldRN ty55 (cs := cA (Value.int .u8) (gt y23 x30)) 0 (fun w hC => hr40 w0 w _ (hC.mono (pick2 _ _ _))) ((cA_length _ _).trans ((cA_length _ _).symm.trans hl41)) (whole _ _ ((cA_length _ _).trans ((cA_length _ _).symm.trans hl41))))) hI ?_
              refine GmT.r (i := 8) 2 (by kernel_rfl) (by kernel_rfl) (Yl.neqA (k := .u8) (d := 73) (T := 55) (xs := gt y19 x30) (ys := gt y23 x30) (by kernel_rfl) Go.Proofs.Try.underlying55 (by kernel_rfl) Go.Proofs.Try.underlying5 ty5 ((cA_length _ _).symm.trans hl36) ((cA_length _ _).symm.trans hl41)) hI ?_
              refine GmT.done (by kernel_rfl) ?_
              refine Qn.then ?_
              by_cases hb42 : (!(eqA (gt y19 x30) (gt y23 x30))) = true
              · rw [if_pos hb42] at h1
                refine CodT.yes' (b := !(eqA (gt y19 x30) (gt y23 x30))) (by kernel_rfl) hb42 ?_
                refine CodT.seq ?_
                refine CodT.regionL [0] (by kernel_rfl) ?_
                refine OpsT.pures (r := []) [0] [6] (S' := [(6, .bool false)]) (by kernel_rfl) ?_
                refine OpsT.done ?_
                refine Qn.then ?_
                refine CodT.ret ?_
                refine Qn.block_ret ?_
                refine Qn.ret_then ?_
                refine Qn.ret_then ?_
                refine Qn.block_ret ?_
                refine Qn.ret_then ?_
                refine Qn.ret_then ?_
                have hI := hI.drop
                have hI := hI.drop
                have hI := hI.drop
                have e := someS h1
                subst e
                try dsimp only at h0
                have e := someS h0
                subst e
                refine Qn.keep [6] (S' := [(6, .bool false)]) (by kernel_rfl) ?_
                exact post_ret (v := .bool false) (fun a ha => RunRes.run (vs := [.bool false]) (.tmp (t := 6) (by kernel_rfl) .nil) ha (by kernel_rfl)) ⟨rfl, hI⟩
              · rw [if_neg hb42] at h1
                refine CodT.no' (b := !(eqA (gt y19 x30) (gt y23 x30))) (by kernel_rfl) (by simpa using hb42) ?_
                refine CodT.skip ?_
                refine Qn.block_normal ?_
                refine Qn.then ?_
                refine CodT.regionL [0, 1, 2] (by kernel_rfl) ?_
                refine OpsT.pures (r := []) [0, 1, 2] [1, 2, 3, 7, 13, 14, 15] (S' := [(1, .slice A_a1 a1.length c_a1), (2, .int .i64 a2), (3, .pointer (some ⟨b1, 0, none⟩)), (7, .bool y3), (13, .slice A20 y19.length cp21), (14, .slice A24 y23.length cp25), (15, .int .i64 (wi64 (x30 + 1)))]) (by kernel_rfl) ?_
                refine OpsT.done ?_
                exact Qn.thenJ fun a ha => ⟨k, Nat.lt_succ_self k, wi64 (x30 + 1), h1, ha.keep [1, 2, 3, 7, 13, 14, 15] (by kernel_rfl), hI⟩
            · rw [if_neg hb31] at h1
              refine CodT.no' (b := decide (x30 < (y19.length : Int))) (by kernel_rfl) (by simpa using hb31) ?_
              refine CodT.exit ?_
              refine Qn.exit_then ?_
              refine Qn.exit_then ?_
              refine Qn.block ?_
              have hI := hI.mono (pick2 _ _ _)
              have hI := hI.drop
              have hI := hI.mono (pick2 _ _ _)
              have hI := hI.drop
              have e := someS h1
              subst e
              exact Qn.thenJ fun a ha => ⟨rfl, ha.keep [1, 2, 3, 7] (by kernel_rfl), hI⟩
          ·
            rintro a w ⟨rfl, ha, hI⟩
            try dsimp only at h0
            refine Qn.of ?_ ha
            refine Qn.then ?_
            obtain ⟨r1, h1, h0⟩ := bindS h0
            refine CodT.meet (fun a w => .inr () = r1 ∧ Fr 111 [(1, .slice A_a1 a1.length c_a1), (2, .int .i64 a2), (7, .bool y3)] a ∧ Inv w0 Z w A) ?_ ?_
            ·
              refine CodT.seq ?_
              refine CodT.regionL [0, 1, 2] (by kernel_rfl) ?_
              refine OpsT.pures (r := []) [0, 1, 2] [1, 2, 3, 7, 76] (S' := [(1, .slice A_a1 a1.length c_a1), (2, .int .i64 a2), (3, .pointer (some ⟨b1, 0, none⟩)), (7, .bool y3), (76, .bool (decide ((a1.length : Int) > 0)))]) (by kernel_rfl) ?_
              refine OpsT.done ?_
              refine Qn.then ?_
              by_cases hb43 : (decide ((a1.length : Int) > 0)) = true
              · rw [if_pos hb43] at h1
                refine CodT.yes' (b := decide ((a1.length : Int) > 0)) (by kernel_rfl) hb43 ?_
                obtain ⟨r2, h2, h1⟩ := bindS h1
                refine CodT.meet (fun a w => ∃ (x45 : (List Int)) (x47 : Bool) (b44 : Nat), (x45, x47) = r2 ∧ Fr 111 [(1, .slice A_a1 a1.length c_a1), (2, .int .i64 a2), (3, .pointer (some ⟨b1, 0, none⟩)), (7, .bool y3), (16, .pointer (some ⟨b44, 0, none⟩)), (17, .bool x47)] a ∧ Inv w0 Z w (star (pt b44 (.cells (cA (Value.int .u8) x45).toArray 55 (0, 0))) (star (pt b1 (.cells (cA (Value.int .u8) a0).toArray 55 (0, 0))) A)) ∧ x45.length = 32) ?_ ?_
                ·
                  refine CodT.drawI (n := 11) [9] (by kernel_rfl) (by kernel_rfl) hI ?_
                  intro w hI
                  refine GmT.p' 1 79 (.slice A_a1 a1.length c_a1) (by kernel_rfl) (by kernel_rfl) ?_
                  refine GmT.r (i := 0) 2 (by kernel_rfl) (by kernel_rfl) (Yl.load (d := 78) (T := 55) (v := .agg (cA (Value.int .u8) a0).toArray) (by kernel_rfl) (ldBN ty55 (l := cA (Value.int .u8) a0) (o := 0) (cs := cA (Value.int .u8) a0) (ent_refl _) ((cA_length _ _).trans hl_a0) (whole _ _ ((cA_length _ _).trans hl_a0)))) hI ?_
                  obtain ⟨hg48, h2⟩ := guardS h2
                  obtain ⟨g49, o53, hA50, hr51, hl52⟩ := RdS.get hr_a1 hg48.1 hg48.2
                  refine GmT.r (i := 2) 2 (by kernel_rfl) (by kernel_rfl) (Yl.indexSlice (d := 80) (T := 56) (cc := c_a1) (k := .i64) (j := 0) (g := g49) (o := o53) (by kernel_rfl) Go.Proofs.Try.underlying56 ty65 hA50 hg48.1 hg48.2) hI ?_
                  refine GmT.r (i := 3) 2 (by kernel_rfl) (by kernel_rfl) (Yl.load (d := 81) (T := 65) (v := .agg (c_ApiEvent (gt a1 0)).toArray) (by kernel_rfl) (ldRN ty65 (cs := c_ApiEvent (gt a1 0)) 0 (fun w hC => hr51 w0 w _ hC) hl52 (whole _ _ hl52))) hI ?_
                  refine GmT.several [4, 8] (by kernel_rfl) rfl ?_
                  intro i hi; simp only [List.mem_cons, List.not_mem_nil, or_false] at hi; rcases hi with rfl | rfl
                  ·
                    obtain ⟨⟨y55, y57⟩, hc54, h2⟩ := bindS h2
                    try dsimp only at h2
                    rw [lst_set]
                    refine (Does.call (d := some 82) (n := 31) (vs := [.agg (cA (Value.int .u8) a0).toArray, .agg (c_ApiEvent (gt a1 0)).toArray]) (by kernel_rfl) en31 (c31 w0 w _ _ hI a0 hl_a0 (gt a1 0) (inv_ApiEvent _ hl52) _ hc54) ?_)
                    rintro e w ⟨rfl, hl56, hI⟩
                    refine ⟨_, rfl, ?_⟩
                    refine ⟨fun _ _ => hI, ?_⟩
                    refine GmT.p' 5 77 (.tuple #[.agg (cA (Value.int .u8) y55).toArray, .bool y57]) (by kernel_rfl) (by kernel_rfl) ?_
                    refine GmT.p' 6 83 (.agg (cA (Value.int .u8) y55).toArray) (by kernel_rfl) (by kernel_rfl) ?_
                    refine GmT.p' 7 84 (.bool y57) (by kernel_rfl) (by kernel_rfl) ?_
                    refine GmT.o (i := 8) (by kernel_rfl) (Does.allocL (d := 16) (T := 55) (cA (Value.int .u8) (List.replicate 32 (0 : Int))) (by kernel_rfl) ty55 hI (by kernel_rfl) ?_)
                    intro b58 w hI
                    have hC := hI
                    have hC := hC.drop
                    refine ⟨fun _ _ => hC, ?_⟩
                    refine GmT.o (i := 9) (by kernel_rfl) (Does.storeAll (T := 55) (b := b58) (n := 32) (xs := (List.replicate 32 (0 : Int))) (ys := y55) (by kernel_rfl) ty55 hI (fun _ => rfl) (by kernel_rfl) hl56 ?_)
                    intro w hI
                    refine ⟨fun h => absurd h (by decide), ?_⟩
                    refine GmT.p' 10 17 (.bool y57) (by kernel_rfl) (by kernel_rfl) ?_
                    refine GmT.done (by kernel_rfl) ?_
                    have e := someS h2
                    subst e
                    exact Qn.thenJ fun a ha => ⟨y55, y57, b58, rfl, ha.keep [1, 2, 3, 7, 16, 17] (by kernel_rfl), hI, hl56⟩
                  ·
                    rw [lst_set]
                    refine (Does.allocL (d := 16) (T := 55) (cA (Value.int .u8) (List.replicate 32 (0 : Int))) (by kernel_rfl) ty55 hI (by kernel_rfl) ?_)
                    intro b59 w hI
                    have hC := hI
                    have hC := hC.drop
                    refine ⟨fun _ _ => hC, ?_⟩
                    obtain ⟨⟨y61, y63⟩, hc60, h2⟩ := bindS h2
                    try dsimp only at h2
                    refine GmT.o (i := 4) (by kernel_rfl) (Does.call (d := some 82) (n := 31) (vs := [.agg (cA (Value.int .u8) a0).toArray, .agg (c_ApiEvent (gt a1 0)).toArray]) (by kernel_rfl) en31 (c31 w0 w _ _ hI a0 hl_a0 (gt a1 0) (inv_ApiEvent _ hl52) _ hc60) ?_)
                    rintro e w ⟨rfl, hl62, hI⟩
                    refine ⟨_, rfl, ?_⟩
                    have hC := hI
                    have hC := hC.drop
                    refine ⟨fun _ _ => hC, ?_⟩
                    refine GmT.p' 5 77 (.tuple #[.agg (cA (Value.int .u8) y61).toArray, .bool y63]) (by kernel_rfl) (by kernel_rfl) ?_
                    refine GmT.p' 6 83 (.agg (cA (Value.int .u8) y61).toArray) (by kernel_rfl) (by kernel_rfl) ?_
                    refine GmT.p' 7 84 (.bool y63) (by kernel_rfl) (by kernel_rfl) ?_
                    refine GmT.o (i := 9) (by kernel_rfl) (Does.storeAll (T := 55) (b := b59) (n := 32) (xs := (List.replicate 32 (0 : Int))) (ys := y61) (by kernel_rfl) ty55 hI (fun _ => rfl) (by kernel_rfl) hl62 ?_)
                    intro w hI
                    refine ⟨fun h => absurd h (by decide), ?_⟩
                    refine GmT.p' 10 17 (.bool y63) (by kernel_rfl) (by kernel_rfl) ?_
                    refine GmT.done (by kernel_rfl) ?_
                    have e := someS h2
                    subst e
                    exact Qn.thenJ fun a ha => ⟨y61, y63, b59, rfl, ha.keep [1, 2, 3, 7, 16, 17] (by kernel_rfl), hI, hl62⟩
                ·
                  rintro a w ⟨x45, x47, b44, rfl, ha, hI, hl46⟩
                  try dsimp only at h1
                  refine CodT.of ?_ ha
                  obtain ⟨r2, h2, h1⟩ := bindS h1
                  refine CodT.meet (fun a w => ∃ (x65 : (List Int)) (x67 : Bool) (b64 : Nat), (x65, x67) = r2 ∧ Fr 111 [(1, .slice A_a1 a1.length c_a1), (2, .int .i64 a2), (7, .bool y3), (16, .pointer (some ⟨b44, 0, none⟩)), (17, .bool x47), (18, .pointer (some ⟨b64, 0, none⟩)), (19, .bool x67)] a ∧ Inv w0 Z w (star (pt b64 (.cells (cA (Value.int .u8) x65).toArray 55 (0, 0))) (star (pt b44 (.cells (cA (Value.int .u8) x45).toArray 55 (0, 0))) A)) ∧ x65.length = 32) ?_ ?_
                  ·
                    refine CodT.drawI (n := 11) [9] (by kernel_rfl) (by kernel_rfl) hI ?_
                    intro w hI
                    refine GmT.p' 1 87 (.slice A_a1 a1.length c_a1) (by kernel_rfl) (by kernel_rfl) ?_
                    refine GmT.r (i := 0) 2 (by kernel_rfl) (by kernel_rfl) (Yl.load (d := 86) (T := 55) (v := .agg (cA (Value.int .u8) a0).toArray) (by kernel_rfl) (ldBN ty55 (l := cA (Value.int .u8) a0) (o := 0) (cs := cA (Value.int .u8) a0) (pick2 _ _ _) ((cA_length _ _).trans hl_a0) (whole _ _ ((cA_length _ _).trans hl_a0)))) hI ?_
                    obtain ⟨hg68, h2⟩ := guardS h2
                    obtain ⟨g69, o73, hA70, hr71, hl72⟩ := RdS.get hr_a1 hg68.1 hg68.2
                    refine GmT.r (i := 2) 2 (by kernel_rfl) (by kernel_rfl) (Yl.indexSlice (d := 88) (T := 56) (cc := c_a1) (k := .i64) (j := 0) (g := g69) (o := o73) (by kernel_rfl) Go.Proofs.Try.underlying56 ty65 hA70 hg68.1 hg68.2) hI ?_
                    refine GmT.r (i := 3) 2 (by kernel_rfl) (by kernel_rfl) (Yl.load (d := 89) (T := 65) (v := .agg (c_ApiEvent (gt a1 0)).toArray) (by kernel_rfl) (ldRN ty65 (cs := c_ApiEvent (gt a1 0)) 0 (fun w hC => hr71 w0 w _ hC) hl72 (whole _ _ hl72))) hI ?_
                    refine GmT.several [4, 8] (by kernel_rfl) rfl ?_
                    intro i hi; simp only [List.mem_cons, List.not_mem_nil, or_false] at hi; rcases hi with rfl | rfl
                    ·
                      obtain ⟨⟨y75, y77⟩, hc74, h2⟩ := bindS h2
                      try dsimp only at h2
                      rw [lst_set]
                      refine (Does.call (d := some 90) (n := 32) (vs := [.agg (cA (Value.int .u8) a0).toArray, .agg (c_ApiEvent (gt a1 0)).toArray]) (by kernel_rfl) en32 (c32 w0 w _ _ hI a0 hl_a0 (gt a1 0) (inv_ApiEvent _ hl72) _ hc74) ?_)
                      rintro e w ⟨rfl, hl76, hI⟩
                      refine ⟨_, rfl, ?_⟩
                      refine ⟨fun _ _ => hI, ?_⟩
                      refine GmT.p' 5 85 (.tuple #[.agg (cA (Value.int .u8) y75).toArray, .bool y77]) (by kernel_rfl) (by kernel_rfl) ?_
                      refine GmT.p' 6 91 (.agg (cA (Value.int .u8) y75).toArray) (by kernel_rfl) (by kernel_rfl) ?_
                      refine GmT.p' 7 92 (.bool y77) (by kernel_rfl) (by kernel_rfl) ?_
                      refine GmT.o (i := 8) (by kernel_rfl) (Does.allocL (d := 18) (T := 55) (cA (Value.int .u8) (List.replicate 32 (0 : Int))) (by kernel_rfl) ty55 hI (by kernel_rfl) ?_)
                      intro b78 w hI
                      have hC := hI
                      have hC := hC.drop
                      refine ⟨fun _ _ => hC, ?_⟩
                      refine GmT.o (i := 9) (by kernel_rfl) (Does.storeAll (T := 55) (b := b78) (n := 32) (xs := (List.replicate 32 (0 : Int))) (ys := y75) (by kernel_rfl) ty55 hI (fun _ => rfl) (by kernel_rfl) hl76 ?_)
                      intro w hI
                      refine ⟨fun h => absurd h (by decide), ?_⟩
                      refine GmT.p' 10 19 (.bool y77) (by kernel_rfl) (by kernel_rfl) ?_
                      refine GmT.done (by kernel_rfl) ?_
                      have hI := hI.mono (pick3 _ _ _ _)
                      have hI := hI.drop
                      have e := someS h2
                      subst e
                      exact Qn.thenJ fun a ha => ⟨y75, y77, b78, rfl, ha.keep [1, 2, 7, 16, 17, 18, 19] (by kernel_rfl), hI, hl76⟩
                    ·
                      rw [lst_set]
                      refine (Does.allocL (d := 18) (T := 55) (cA (Value.int .u8) (List.replicate 32 (0 : Int))) (by kernel_rfl) ty55 hI (by kernel_rfl) ?_)
                      intro b79 w hI
                      have hC := hI
                      have hC := hC.drop
                      refine ⟨fun _ _ => hC, ?_⟩
                      obtain ⟨⟨y81, y83⟩, hc80, h2⟩ := bindS h2
                      try dsimp only at h2
                      refine GmT.o (i := 4) (by kernel_rfl) (Does.call (d := some 90) (n := 32) (vs := [.agg (cA (Value.int .u8) a0).toArray, .agg (c_ApiEvent (gt a1 0)).toArray]) (by kernel_rfl) en32 (c32 w0 w _ _ hI a0 hl_a0 (gt a1 0) (inv_ApiEvent _ hl72) _ hc80) ?_)
                      rintro e w ⟨rfl, hl82, hI⟩
                      refine ⟨_, rfl, ?_⟩
                      have hC := hI
                      have hC := hC.drop
                      refine ⟨fun _ _ => hC, ?_⟩
                      refine GmT.p' 5 85 (.tuple #[.agg (cA (Value.int .u8) y81).toArray, .bool y83]) (by kernel_rfl) (by kernel_rfl) ?_
                      refine GmT.p' 6 91 (.agg (cA (Value.int .u8) y81).toArray) (by kernel_rfl) (by kernel_rfl) ?_
                      refine GmT.p' 7 92 (.bool y83) (by kernel_rfl) (by kernel_rfl) ?_
                      refine GmT.o (i := 9) (by kernel_rfl) (Does.storeAll (T := 55) (b := b79) (n := 32) (xs := (List.replicate 32 (0 : Int))) (ys := y81) (by kernel_rfl) ty55 hI (fun _ => rfl) (by kernel_rfl) hl82 ?_)
                      intro w hI
                      refine ⟨fun h => absurd h (by decide), ?_⟩
                      refine GmT.p' 10 19 (.bool y83) (by kernel_rfl) (by kernel_rfl) ?_
                      refine GmT.done (by kernel_rfl) ?_
                      have hI := hI.mono (pick3 _ _ _ _)
                      have hI := hI.drop
                      have e := someS h2
                      subst e
                      exact Qn.thenJ fun a ha => ⟨y81, y83, b79, rfl, ha.keep [1, 2, 7, 16, 17, 18, 19] (by kernel_rfl), hI, hl82⟩
                  ·
                    rintro a w ⟨x65, x67, b64, rfl, ha, hI, hl66⟩
                    try dsimp only at h1
                    refine CodT.of ?_ ha
                    obtain ⟨r2, h2, h1⟩ := bindS h1
                    refine CodT.meet (fun a w => ∃ (x84 : Bool), x84 = r2 ∧ Fr 111 [(1, .slice A_a1 a1.length c_a1), (2, .int .i64 a2), (7, .bool y3), (100, .bool x84)] a ∧ Inv w0 Z w A) ?_ ?_
                    ·
                      refine CodT.regionL [0, 1, 2, 3, 4, 5, 6, 7] (by kernel_rfl) ?_
                      refine OpsT.cons (Does.yi (Yl.load (d := 93) (T := 55) (v := .agg (cA (Value.int .u8) x45).toArray) (by kernel_rfl) (ldBN ty55 (l := cA (Value.int .u8) x45) (o := 0) (cs := cA (Value.int .u8) x45) (pick2 _ _ _) ((cA_length _ _).trans hl46) (whole _ _ ((cA_length _ _).trans hl46)))) hI ?_)
                      refine OpsT.cons (Does.yi (Yl.load (d := 94) (T := 55) (v := .agg (cA (Value.int .u8) x65).toArray) (by kernel_rfl) (ldBN ty55 (l := cA (Value.int .u8) x65) (o := 0) (cs := cA (Value.int .u8) x65) (ent_refl _) ((cA_length _ _).trans hl66) (whole _ _ ((cA_length _ _).trans hl66)))) hI ?_)
                      refine OpsT.cons (Does.yi (Yl.neqA (k := .u8) (d := 95) (T := 55) (xs := x45) (ys := x65) (by kernel_rfl) Go.Proofs.Try.underlying55 (by kernel_rfl) Go.Proofs.Try.underlying5 ty5 hl46 hl66) hI ?_)
                      refine OpsT.pures (r := [4, 5, 6, 7]) [3] [1, 2, 7, 17, 19, 96] (S' := [(1, .slice A_a1 a1.length c_a1), (2, .int .i64 a2), (7, .bool y3), (17, .bool x47), (19, .bool x67), (96, .bool (!(eqA x45 x65)))]) (by kernel_rfl) ?_
                      by_cases hb85 : (!(eqA x45 x65)) = true
                      · rw [if_pos hb85] at h2
                        refine OpsT.keep [1, 2, 7, 17, 19, 96] (S' := [(1, .slice A_a1 a1.length c_a1), (2, .int .i64 a2), (7, .bool y3), (17, .bool x47), (19, .bool x67), (96, .bool true)]) (by (try simp only [hb85]); kernel_rfl) ?_
                        refine OpsT.pures (r := []) [4, 5, 6, 7] [1, 2, 7, 100] (S' := [(1, .slice A_a1 a1.length c_a1), (2, .int .i64 a2), (7, .bool y3), (100, .bool true)]) (by kernel_rfl) ?_
                        refine OpsT.done ?_
                        have hI := hI.drop
                        have hI := hI.drop
                        have e := someS h2
                        subst e
                        exact Qn.thenJ fun a ha => ⟨true, rfl, ha.keep [1, 2, 7, 100] (by kernel_rfl), hI⟩
                      · rw [if_neg hb85] at h2
                        have hb85 : (!(eqA x45 x65)) = false := by simpa using hb85
                        refine OpsT.keep [1, 2, 7, 17, 19, 96] (S' := [(1, .slice A_a1 a1.length c_a1), (2, .int .i64 a2), (7, .bool y3), (17, .bool x47), (19, .bool x67), (96, .bool false)]) (by (try simp only [hb85]); kernel_rfl) ?_
                        refine OpsT.pures (r := []) [4, 5, 6, 7] [1, 2, 7, 100] (S' := [(1, .slice A_a1 a1.length c_a1), (2, .int .i64 a2), (7, .bool y3), (100, .bool (x47 != x67))]) (by kernel_rfl) ?_
                        refine OpsT.done ?_
                        have hI := hI.drop
                        have hI := hI.drop
                        have e := someS h2
                        subst e
                        exact Qn.thenJ fun a ha => ⟨x47 != x67, rfl, ha.keep [1, 2, 7, 100] (by kernel_rfl), hI⟩
                    ·
                      rintro a w ⟨x84, rfl, ha, hI⟩
                      try dsimp only at h1
                      refine CodT.of ?_ ha
                      by_cases hb86 : x84 = true
                      · rw [if_pos hb86] at h1
                        refine CodT.yes' (b := x84) (by kernel_rfl) hb86 ?_
                        refine CodT.seq ?_
                        refine CodT.regionL [0] (by kernel_rfl) ?_
                        refine OpsT.pures (r := []) [0] [6] (S' := [(6, .bool false)]) (by kernel_rfl) ?_
                        refine OpsT.done ?_
                        refine Qn.then ?_
                        refine CodT.ret ?_
                        refine Qn.ret_then ?_
                        have e := someS h1
                        subst e
                        try dsimp only at h0
                        have e := someS h0
                        subst e
                        refine Qn.keep [6] (S' := [(6, .bool false)]) (by kernel_rfl) ?_
                        exact post_ret (v := .bool false) (fun a ha => RunRes.run (vs := [.bool false]) (.tmp (t := 6) (by kernel_rfl) .nil) ha (by kernel_rfl)) ⟨rfl, hI⟩
                      · rw [if_neg hb86] at h1
                        refine CodT.no' (b := x84) (by kernel_rfl) (by simpa using hb86) ?_
                        refine CodT.skip ?_
                        have e := someS h1
                        subst e
                        exact Qn.thenJ fun a ha => ⟨rfl, ha.keep [1, 2, 7] (by kernel_rfl), hI⟩
              · rw [if_neg hb43] at h1
                refine CodT.no' (b := decide ((a1.length : Int) > 0)) (by kernel_rfl) (by simpa using hb43) ?_
                refine CodT.skip ?_
                have hI := hI.drop
                have e := someS h1
                subst e
                exact Qn.thenJ fun a ha => ⟨rfl, ha.keep [1, 2, 7] (by kernel_rfl), hI⟩
            ·
              rintro a w ⟨rfl, ha, hI⟩
              try dsimp only at h0
              refine CodT.of ?_ ha
              obtain ⟨r1, h1, h0⟩ := bindS h0
              refine CodT.meet (fun a w => ∃ (x87 : Bool), x87 = r1 ∧ Fr 111 [(6, .bool x87)] a ∧ Inv w0 Z w A) ?_ ?_
              ·
                refine CodT.regionL [0, 1, 2, 3, 4, 5, 6, 7, 8, 9, 10] (by kernel_rfl) ?_
                refine OpsT.pures (r := [2, 3, 4, 5, 6, 7, 8, 9, 10]) [0, 1] [1, 2, 102] (S' := [(1, .slice A_a1 a1.length c_a1), (2, .int .i64 a2), (102, .bool y3)]) (by kernel_rfl) ?_
                by_cases hb88 : y3 = true
                · rw [if_pos hb88] at h1
                  refine OpsT.keep [1, 2, 102] (S' := [(1, .slice A_a1 a1.length c_a1), (2, .int .i64 a2), (102, .bool true)]) (by (try simp only [hb88]); kernel_rfl) ?_
                  refine OpsT.pures (r := [4, 5, 6, 7, 8, 9, 10]) [2, 3] [1, 2, 102, 103, 104] (S' := [(1, .slice A_a1 a1.length c_a1), (2, .int .i64 a2), (102, .bool true), (103, .slice A_a1 a1.length c_a1), (104, .int .i64 a2)]) (by kernel_rfl) ?_
                  obtain ⟨y90, hc89, h1⟩ := bindS h1
                  try dsimp only at h1
                  refine OpsT.cons (Does.call (d := some 105) (n := 33) (vs := [.slice A_a1 a1.length c_a1, .int .i64 a2]) (by kernel_rfl) en33 (c33 w0 w _ _ hI A_a1 c_a1 a1 hr_a1 a2 _ hc89) ?_)
                  rintro e w ⟨rfl, hI⟩
                  refine ⟨_, rfl, ?_⟩
                  refine OpsT.pures (r := [7, 8, 9, 10]) [5, 6] [102, 105, 106, 107] (S' := [(102, .bool true), (105, .string y90), (106, .slice A_a1 a1.length c_a1), (107, .int .i64 a2)]) (by kernel_rfl) ?_
                  obtain ⟨y92, hc91, h1⟩ := bindS h1
                  try dsimp only at h1
                  refine OpsT.cons (Does.call (d := some 108) (n := 34) (vs := [.slice A_a1 a1.length c_a1, .int .i64 a2]) (by kernel_rfl) en34 (c34 w0 w _ _ hI A_a1 c_a1 a1 hr_a1 a2 _ hc91) ?_)
                  rintro e w ⟨rfl, hI⟩
                  refine ⟨_, rfl, ?_⟩
                  refine OpsT.pures (r := []) [8, 9, 10] [6] (S' := [(6, .bool (seq y90 y92))]) (by kernel_rfl) ?_
                  refine OpsT.done ?_
                  have e := someS h1
                  subst e
                  exact Qn.thenJ fun a ha => ⟨seq y90 y92, rfl, ha.keep [6] (by kernel_rfl), hI⟩
                · rw [if_neg hb88] at h1
                  have hb88 : y3 = false := by simpa using hb88
                  refine OpsT.keep [1, 2, 102] (S' := [(1, .slice A_a1 a1.length c_a1), (2, .int .i64 a2), (102, .bool false)]) (by (try simp only [hb88]); kernel_rfl) ?_
                  refine OpsT.pures (r := []) [2, 3, 4, 5, 6, 7, 8, 9, 10] [6] (S' := [(6, .bool false)]) (by kernel_rfl) ?_
                  refine OpsT.done ?_
                  have e := someS h1
                  subst e
                  exact Qn.thenJ fun a ha => ⟨false, rfl, ha.keep [6] (by kernel_rfl), hI⟩
              ·
                rintro a w ⟨x87, rfl, ha, hI⟩
                try dsimp only at h0
                refine CodT.of ?_ ha
                refine CodT.ret ?_
                have e := someS h0
                subst e
                refine Qn.keep [6] (S' := [(6, .bool x87)]) (by kernel_rfl) ?_
                exact post_ret (v := .bool x87) (fun a ha => RunRes.run (vs := [.bool x87]) (.tmp (t := 6) (by kernel_rfl) .nil) ha (by kernel_rfl)) ⟨rfl, hI⟩
end Go.Cen
