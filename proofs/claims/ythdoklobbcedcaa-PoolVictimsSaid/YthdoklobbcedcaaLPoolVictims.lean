/- The walk of the law PoolVictims, printed by a program of ours. -/
import Derived.Test.YthdoklobbcedcaaWq2
set_option linter.unusedVariables false
set_option linter.unusedSimpArgs false
namespace Go.Cen
set_option maxRecDepth 100000 in
set_option maxHeartbeats 4000000 in
/-- cenotaph/cenotaphlaw17.PoolVictims -/
theorem c11 (w0 w : World) (Z : Hp) (A : HP)  (hI : Inv w0 Z w A) (A_a0 : Option Addr) (c_a0 : Nat) (a0 : (List PoolUse)) (hr_a0 : RdS Z c_PoolUse 5 A_a0 c_a0 a0) (a1 : Int) (r : Bool) (h0 : law17_PoolVictims a0 a1 = some r) :
    Calls prog 11 #[.slice A_a0 a0.length c_a0, .int .i64 a1] w (fun e w' => e = .returned (.bool r) ∧ Inv w0 Z w' A) := by
  refine calls_intro (args := [.slice A_a0 a0.length c_a0, .int .i64 a1]) (fn := Go.Proofs.Try.f11) 141 Go.Proofs.Try.func11 (by rfl) Go.Proofs.Try.ntmps11 (by kernel_rfl) ?_
  unfold law17_PoolVictims at h0
  refine CodT.seq ?_
  refine CodT.regionL [0] (by kernel_rfl) ?_
  refine OpsT.pures (r := []) [0] [0, 1] (S' := [(0, .slice A_a0 a0.length c_a0), (1, .int .i64 a1)]) (by kernel_rfl) ?_
  refine OpsT.done ?_
  refine Qn.then ?_
  refine CodT.seq ?_
  refine CodT.regionL [0, 1] (by kernel_rfl) ?_
  obtain ⟨y2, hc1, h0⟩ := bindS h0
  try dsimp only at h0
  refine OpsT.cons (Does.call (d := some 11) (n := 24) (vs := []) (by kernel_rfl) en24 (c24 w0 w _ _ hI _ hc1) ?_)
  rintro e w ⟨rfl, hI⟩
  refine ⟨_, rfl, ?_⟩
  refine OpsT.pures (r := []) [1] [0, 1, 5] (S' := [(0, .slice A_a0 a0.length c_a0), (1, .int .i64 a1), (5, .bool y2)]) (by kernel_rfl) ?_
  refine OpsT.done ?_
  refine Qn.then ?_
  refine CodT.seq ?_
  refine CodT.seq ?_
  refine CodT.regionL [0, 1] (by kernel_rfl) ?_
  refine OpsT.pures (r := []) [0, 1] [0, 1, 5, 13] (S' := [(0, .slice A_a0 a0.length c_a0), (1, .int .i64 a1), (5, .bool y2), (13, .bool (!y2))]) (by kernel_rfl) ?_
  refine OpsT.done ?_
  refine Qn.then ?_
  by_cases hb3 : (!y2) = true
  · rw [if_pos hb3] at h0
    refine CodT.yes' (b := !y2) (by kernel_rfl) hb3 ?_
    refine CodT.seq ?_
    refine CodT.regionL [0] (by kernel_rfl) ?_
    refine OpsT.pures (r := []) [0] [4] (S' := [(4, .bool false)]) (by kernel_rfl) ?_
    refine OpsT.done ?_
    refine Qn.then ?_
    refine CodT.ret ?_
    refine Qn.ret_then ?_
    have e := someS h0
    subst e
    refine Qn.keep [4] (S' := [(4, .bool false)]) (by kernel_rfl) ?_
    exact post_ret (v := .bool false) (fun a ha => RunRes.run (vs := [.bool false]) (.tmp (t := 4) (by kernel_rfl) .nil) ha (by kernel_rfl)) ⟨rfl, hI⟩
  · rw [if_neg hb3] at h0
    refine CodT.no' (b := !y2) (by kernel_rfl) (by simpa using hb3) ?_
    refine CodT.skip ?_
    refine Qn.then ?_
    refine CodT.seq ?_
    refine CodT.regionL [0, 1, 2] (by kernel_rfl) ?_
    refine OpsT.pures (r := [1, 2]) [0] [0, 1, 5, 14] (S' := [(0, .slice A_a0 a0.length c_a0), (1, .int .i64 a1), (5, .bool y2), (14, .slice A_a0 a0.length c_a0)]) (by kernel_rfl) ?_
    obtain ⟨y5, hc4, h0⟩ := bindS h0
    try dsimp only at h0
    refine OpsT.cons (Does.call (d := some 15) (n := 25) (vs := [.slice A_a0 a0.length c_a0]) (by kernel_rfl) en25 (c25 w0 w _ _ hI A_a0 c_a0 a0 hr_a0 _ hc4) ?_)
    rintro e w ⟨rfl, hI⟩
    refine ⟨_, rfl, ?_⟩
    refine OpsT.pures (r := []) [2] [0, 1, 5, 6] (S' := [(0, .slice A_a0 a0.length c_a0), (1, .int .i64 a1), (5, .bool y2), (6, .bool y5)]) (by kernel_rfl) ?_
    refine OpsT.done ?_
    refine Qn.then ?_
    refine CodT.seq ?_
    refine CodT.seq ?_
    refine CodT.regionL [0, 1] (by kernel_rfl) ?_
    refine OpsT.pures (r := []) [0, 1] [0, 1, 5, 17] (S' := [(0, .slice A_a0 a0.length c_a0), (1, .int .i64 a1), (5, .bool y2), (17, .bool (!y5))]) (by kernel_rfl) ?_
    refine OpsT.done ?_
    refine Qn.then ?_
    by_cases hb6 : (!y5) = true
    · rw [if_pos hb6] at h0
      refine CodT.yes' (b := !y5) (by kernel_rfl) hb6 ?_
      refine CodT.seq ?_
      refine CodT.regionL [0, 1] (by kernel_rfl) ?_
      refine OpsT.pures (r := []) [0, 1] [4] (S' := [(4, .bool y2)]) (by kernel_rfl) ?_
      refine OpsT.done ?_
      refine Qn.then ?_
      refine CodT.ret ?_
      refine Qn.ret_then ?_
      have e := someS h0
      subst e
      refine Qn.keep [4] (S' := [(4, .bool y2)]) (by kernel_rfl) ?_
      exact post_ret (v := .bool y2) (fun a ha => RunRes.run (vs := [.bool y2]) (.tmp (t := 4) (by kernel_rfl) .nil) ha (by kernel_rfl)) ⟨rfl, hI⟩
    · rw [if_neg hb6] at h0
      refine CodT.no' (b := !y5) (by kernel_rfl) (by simpa using hb6) ?_
      refine CodT.skip ?_
      refine Qn.then ?_
      refine CodT.seq ?_
      refine CodT.regionL [0, 1, 2, 3] (by kernel_rfl) ?_
      refine OpsT.pures (r := [2, 3]) [0, 1] [0, 1, 5, 19, 20] (S' := [(0, .slice A_a0 a0.length c_a0), (1, .int .i64 a1), (5, .bool y2), (19, .slice A_a0 a0.length c_a0), (20, .int .i64 a1)]) (by kernel_rfl) ?_
      obtain ⟨y8, hc7, h0⟩ := bindS h0
      try dsimp only at h0
      refine OpsT.cons (Does.call (d := some 21) (n := 32) (vs := [.slice A_a0 a0.length c_a0, .int .i64 a1]) (by kernel_rfl) en32 (c32 w0 w _ _ hI A_a0 c_a0 a0 hr_a0 a1 _ hc7) ?_)
      rintro e w ⟨rfl, hI⟩
      refine ⟨_, rfl, ?_⟩
      refine OpsT.pures (r := []) [3] [0, 1, 5, 7] (S' := [(0, .slice A_a0 a0.length c_a0), (1, .int .i64 a1), (5, .bool y2), (7, .int .i64 y8)]) (by kernel_rfl) ?_
      refine OpsT.done ?_
      refine Qn.then ?_
      refine CodT.seq ?_
      obtain ⟨r1, h1, h0⟩ := bindS h0
      refine CodT.meet (fun a w => ∃ (x9 : Bool), x9 = r1 ∧ Fr 141 [(0, .slice A_a0 a0.length c_a0), (1, .int .i64 a1), (5, .bool y2), (7, .int .i64 y8), (60, .bool x9)] a ∧ Inv w0 Z w A) ?_ ?_
      ·
        refine CodT.regionL [0, 1, 2, 3, 4, 5, 6, 7, 8, 9, 10, 11, 12, 13, 14, 15, 16, 17, 18, 19, 20, 21, 22, 23, 24, 25, 26, 27, 28, 29, 30, 31, 32, 33, 34, 35, 36, 37, 38] (by kernel_rfl) ?_
        refine OpsT.pures (r := [3, 4, 5, 6, 7, 8, 9, 10, 11, 12, 13, 14, 15, 16, 17, 18, 19, 20, 21, 22, 23, 24, 25, 26, 27, 28, 29, 30, 31, 32, 33, 34, 35, 36, 37, 38]) [0, 1, 2] [0, 1, 5, 7, 24] (S' := [(0, .slice A_a0 a0.length c_a0), (1, .int .i64 a1), (5, .bool y2), (7, .int .i64 y8), (24, .bool (decide (y8 ≥ 0)))]) (by kernel_rfl) ?_
        by_cases hb10 : (decide (y8 ≥ 0)) = true
        · rw [if_pos hb10] at h1
          refine OpsT.keep [0, 1, 5, 7, 24] (S' := [(0, .slice A_a0 a0.length c_a0), (1, .int .i64 a1), (5, .bool y2), (7, .int .i64 y8), (24, .bool true)]) (by simp only [hb10]; kernel_rfl) ?_
          refine OpsT.pures (r := [8, 9, 10, 11, 12, 13, 14, 15, 16, 17, 18, 19, 20, 21, 22, 23, 24, 25, 26, 27, 28, 29, 30, 31, 32, 33, 34, 35, 36, 37, 38]) [3, 4, 5, 6, 7] [0, 1, 5, 7, 24, 29] (S' := [(0, .slice A_a0 a0.length c_a0), (1, .int .i64 a1), (5, .bool y2), (7, .int .i64 y8), (24, .bool true), (29, .bool (decide (y8 ≥ (a0.length : Int))))]) (by kernel_rfl) ?_
          by_cases hb11 : (decide (y8 ≥ (a0.length : Int))) = true
          · rw [if_pos hb11] at h1
            refine OpsT.keep [0, 1, 5, 7, 24, 29] (S' := [(0, .slice A_a0 a0.length c_a0), (1, .int .i64 a1), (5, .bool y2), (7, .int .i64 y8), (24, .bool true), (29, .bool true)]) (by simp only [hb11]; kernel_rfl) ?_
            refine OpsT.pures (r := []) [8, 9, 10, 11, 12, 13, 14, 15, 16, 17, 18, 19, 20, 21, 22, 23, 24, 25, 26, 27, 28, 29, 30, 31, 32, 33, 34, 35, 36, 37, 38] [0, 1, 5, 7, 60] (S' := [(0, .slice A_a0 a0.length c_a0), (1, .int .i64 a1), (5, .bool y2), (7, .int .i64 y8), (60, .bool true)]) (by kernel_rfl) ?_
            refine OpsT.done ?_
            have e := someS h1
            subst e
            exact Qn.thenJ fun a ha => ⟨true, rfl, ha.keep [0, 1, 5, 7, 60] (by kernel_rfl), hI⟩
          · rw [if_neg hb11] at h1
            have hb11 : (decide (y8 ≥ (a0.length : Int))) = false := by simpa using hb11
            refine OpsT.keep [0, 1, 5, 7, 24, 29] (S' := [(0, .slice A_a0 a0.length c_a0), (1, .int .i64 a1), (5, .bool y2), (7, .int .i64 y8), (24, .bool true), (29, .bool false)]) (by simp only [hb11]; kernel_rfl) ?_
            refine OpsT.pures (r := [10, 11, 12, 13, 14, 15, 16, 17, 18, 19, 20, 21, 22, 23, 24, 25, 26, 27, 28, 29, 30, 31, 32, 33, 34, 35, 36, 37, 38]) [8, 9] [0, 1, 5, 7, 24, 29, 30, 31] (S' := [(0, .slice A_a0 a0.length c_a0), (1, .int .i64 a1), (5, .bool y2), (7, .int .i64 y8), (24, .bool true), (29, .bool false), (30, .slice A_a0 a0.length c_a0), (31, .int .i64 y8)]) (by kernel_rfl) ?_
            obtain ⟨hg12, h1⟩ := guardS h1
            obtain ⟨g13, o17, hA14, hr15, hl16⟩ := RdS.get hr_a0 hg12.1 hg12.2
            refine OpsT.cons (Does.yi (Yl.indexSlice (d := 32) (T := 35) (cc := c_a0) (k := .i64) (j := y8) (g := g13) (o := o17) (by kernel_rfl) Go.Proofs.Try.underlying35 ty49 hA14 hg12.1 hg12.2) hI ?_)
            refine OpsT.pures (r := [12, 13, 14, 15, 16, 17, 18, 19, 20, 21, 22, 23, 24, 25, 26, 27, 28, 29, 30, 31, 32, 33, 34, 35, 36, 37, 38]) [11] [0, 1, 5, 7, 24, 29, 33] (S' := [(0, .slice A_a0 a0.length c_a0), (1, .int .i64 a1), (5, .bool y2), (7, .int .i64 y8), (24, .bool true), (29, .bool false), (33, .pointer (some ⟨g13, o17 + y8.toNat * 5 + 3, none⟩))]) (by kernel_rfl) ?_
            refine OpsT.cons (Does.yi (Yl.load (d := 34) (T := 4) (v := .bool ((gt a0 y8).Bad)) (by kernel_rfl) (ldR ty4 (v := .bool ((gt a0 y8).Bad)) 3 (fun w hC => hr15 w0 w _ hC) (by kernel_rfl))) hI ?_)
            refine OpsT.pures (r := [15, 16, 17, 18, 19, 20, 21, 22, 23, 24, 25, 26, 27, 28, 29, 30, 31, 32, 33, 34, 35, 36, 37, 38]) [13, 14] [0, 1, 5, 7, 24, 36] (S' := [(0, .slice A_a0 a0.length c_a0), (1, .int .i64 a1), (5, .bool y2), (7, .int .i64 y8), (24, .bool true), (36, .bool ((gt a0 y8).Bad))]) (by kernel_rfl) ?_
            by_cases hb18 : ((gt a0 y8).Bad) = true
            · rw [if_pos hb18] at h1
              refine OpsT.keep [0, 1, 5, 7, 24, 36] (S' := [(0, .slice A_a0 a0.length c_a0), (1, .int .i64 a1), (5, .bool y2), (7, .int .i64 y8), (24, .bool true), (36, .bool true)]) (by simp only [hb18]; kernel_rfl) ?_
              refine OpsT.pures (r := []) [15, 16, 17, 18, 19, 20, 21, 22, 23, 24, 25, 26, 27, 28, 29, 30, 31, 32, 33, 34, 35, 36, 37, 38] [0, 1, 5, 7, 60] (S' := [(0, .slice A_a0 a0.length c_a0), (1, .int .i64 a1), (5, .bool y2), (7, .int .i64 y8), (60, .bool true)]) (by kernel_rfl) ?_
              refine OpsT.done ?_
              have e := someS h1
              subst e
              exact Qn.thenJ fun a ha => ⟨true, rfl, ha.keep [0, 1, 5, 7, 60] (by kernel_rfl), hI⟩
            · rw [if_neg hb18] at h1
              have hb18 : ((gt a0 y8).Bad) = false := by simpa using hb18
              refine OpsT.keep [0, 1, 5, 7, 24, 36] (S' := [(0, .slice A_a0 a0.length c_a0), (1, .int .i64 a1), (5, .bool y2), (7, .int .i64 y8), (24, .bool true), (36, .bool false)]) (by simp only [hb18]; kernel_rfl) ?_
              refine OpsT.pures (r := [17, 18, 19, 20, 21, 22, 23, 24, 25, 26, 27, 28, 29, 30, 31, 32, 33, 34, 35, 36, 37, 38]) [15, 16] [0, 1, 5, 7, 24, 36, 37, 38] (S' := [(0, .slice A_a0 a0.length c_a0), (1, .int .i64 a1), (5, .bool y2), (7, .int .i64 y8), (24, .bool true), (36, .bool false), (37, .slice A_a0 a0.length c_a0), (38, .int .i64 y8)]) (by kernel_rfl) ?_
              obtain ⟨hg19, h1⟩ := guardS h1
              obtain ⟨g20, o24, hA21, hr22, hl23⟩ := RdS.get hr_a0 hg19.1 hg19.2
              refine OpsT.cons (Does.yi (Yl.indexSlice (d := 39) (T := 35) (cc := c_a0) (k := .i64) (j := y8) (g := g20) (o := o24) (by kernel_rfl) Go.Proofs.Try.underlying35 ty49 hA21 hg19.1 hg19.2) hI ?_)
              refine OpsT.pures (r := [19, 20, 21, 22, 23, 24, 25, 26, 27, 28, 29, 30, 31, 32, 33, 34, 35, 36, 37, 38]) [18] [0, 1, 5, 7, 24, 36, 40] (S' := [(0, .slice A_a0 a0.length c_a0), (1, .int .i64 a1), (5, .bool y2), (7, .int .i64 y8), (24, .bool true), (36, .bool false), (40, .pointer (some ⟨g20, o24 + y8.toNat * 5 + 4, none⟩))]) (by kernel_rfl) ?_
              refine OpsT.cons (Does.yi (Yl.load (d := 41) (T := 4) (v := .bool ((gt a0 y8).Keep)) (by kernel_rfl) (ldR ty4 (v := .bool ((gt a0 y8).Keep)) 4 (fun w hC => hr22 w0 w _ hC) (by kernel_rfl))) hI ?_)
              refine OpsT.pures (r := [22, 23, 24, 25, 26, 27, 28, 29, 30, 31, 32, 33, 34, 35, 36, 37, 38]) [20, 21] [0, 1, 5, 7, 24, 43] (S' := [(0, .slice A_a0 a0.length c_a0), (1, .int .i64 a1), (5, .bool y2), (7, .int .i64 y8), (24, .bool true), (43, .bool ((gt a0 y8).Keep))]) (by kernel_rfl) ?_
              by_cases hb25 : ((gt a0 y8).Keep) = true
              · rw [if_pos hb25] at h1
                refine OpsT.keep [0, 1, 5, 7, 24, 43] (S' := [(0, .slice A_a0 a0.length c_a0), (1, .int .i64 a1), (5, .bool y2), (7, .int .i64 y8), (24, .bool true), (43, .bool true)]) (by simp only [hb25]; kernel_rfl) ?_
                refine OpsT.pures (r := []) [22, 23, 24, 25, 26, 27, 28, 29, 30, 31, 32, 33, 34, 35, 36, 37, 38] [0, 1, 5, 7, 60] (S' := [(0, .slice A_a0 a0.length c_a0), (1, .int .i64 a1), (5, .bool y2), (7, .int .i64 y8), (60, .bool true)]) (by kernel_rfl) ?_
                refine OpsT.done ?_
                have e := someS h1
                subst e
                exact Qn.thenJ fun a ha => ⟨true, rfl, ha.keep [0, 1, 5, 7, 60] (by kernel_rfl), hI⟩
              · rw [if_neg hb25] at h1
                have hb25 : ((gt a0 y8).Keep) = false := by simpa using hb25
                refine OpsT.keep [0, 1, 5, 7, 24, 43] (S' := [(0, .slice A_a0 a0.length c_a0), (1, .int .i64 a1), (5, .bool y2), (7, .int .i64 y8), (24, .bool true), (43, .bool false)]) (by simp only [hb25]; kernel_rfl) ?_
                refine OpsT.pures (r := [24, 25, 26, 27, 28, 29, 30, 31, 32, 33, 34, 35, 36, 37, 38]) [22, 23] [0, 1, 5, 7, 24, 43, 44, 45] (S' := [(0, .slice A_a0 a0.length c_a0), (1, .int .i64 a1), (5, .bool y2), (7, .int .i64 y8), (24, .bool true), (43, .bool false), (44, .slice A_a0 a0.length c_a0), (45, .int .i64 y8)]) (by kernel_rfl) ?_
                obtain ⟨hg26, h1⟩ := guardS h1
                obtain ⟨g27, o31, hA28, hr29, hl30⟩ := RdS.get hr_a0 hg26.1 hg26.2
                refine OpsT.cons (Does.yi (Yl.indexSlice (d := 46) (T := 35) (cc := c_a0) (k := .i64) (j := y8) (g := g27) (o := o31) (by kernel_rfl) Go.Proofs.Try.underlying35 ty49 hA28 hg26.1 hg26.2) hI ?_)
                refine OpsT.pures (r := [26, 27, 28, 29, 30, 31, 32, 33, 34, 35, 36, 37, 38]) [25] [0, 1, 5, 7, 24, 43, 47] (S' := [(0, .slice A_a0 a0.length c_a0), (1, .int .i64 a1), (5, .bool y2), (7, .int .i64 y8), (24, .bool true), (43, .bool false), (47, .pointer (some ⟨g27, o31 + y8.toNat * 5 + 1, none⟩))]) (by kernel_rfl) ?_
                refine OpsT.cons (Does.yi (Yl.load (d := 48) (T := 3) (v := .int .i64 ((gt a0 y8).Live)) (by kernel_rfl) (ldR ty3 (v := .int .i64 ((gt a0 y8).Live)) 1 (fun w hC => hr29 w0 w _ hC) (by kernel_rfl))) hI ?_)
                refine OpsT.pures (r := [30, 31, 32, 33, 34, 35, 36, 37, 38]) [27, 28, 29] [0, 1, 5, 7, 24, 51] (S' := [(0, .slice A_a0 a0.length c_a0), (1, .int .i64 a1), (5, .bool y2), (7, .int .i64 y8), (24, .bool true), (51, .bool (decide (((gt a0 y8).Live) ≤ 0)))]) (by kernel_rfl) ?_
                by_cases hb32 : (decide (((gt a0 y8).Live) ≤ 0)) = true
                · rw [if_pos hb32] at h1
                  refine OpsT.keep [0, 1, 5, 7, 24, 51] (S' := [(0, .slice A_a0 a0.length c_a0), (1, .int .i64 a1), (5, .bool y2), (7, .int .i64 y8), (24, .bool true), (51, .bool true)]) (by simp only [hb32]; kernel_rfl) ?_
                  refine OpsT.pures (r := []) [30, 31, 32, 33, 34, 35, 36, 37, 38] [0, 1, 5, 7, 60] (S' := [(0, .slice A_a0 a0.length c_a0), (1, .int .i64 a1), (5, .bool y2), (7, .int .i64 y8), (60, .bool true)]) (by kernel_rfl) ?_
                  refine OpsT.done ?_
                  have e := someS h1
                  subst e
                  exact Qn.thenJ fun a ha => ⟨true, rfl, ha.keep [0, 1, 5, 7, 60] (by kernel_rfl), hI⟩
                · rw [if_neg hb32] at h1
                  have hb32 : (decide (((gt a0 y8).Live) ≤ 0)) = false := by simpa using hb32
                  refine OpsT.keep [0, 1, 5, 7, 24, 51] (S' := [(0, .slice A_a0 a0.length c_a0), (1, .int .i64 a1), (5, .bool y2), (7, .int .i64 y8), (24, .bool true), (51, .bool false)]) (by simp only [hb32]; kernel_rfl) ?_
                  refine OpsT.pures (r := [32, 33, 34, 35, 36, 37, 38]) [30, 31] [0, 1, 5, 7, 24, 51, 52, 53] (S' := [(0, .slice A_a0 a0.length c_a0), (1, .int .i64 a1), (5, .bool y2), (7, .int .i64 y8), (24, .bool true), (51, .bool false), (52, .slice A_a0 a0.length c_a0), (53, .int .i64 y8)]) (by kernel_rfl) ?_
                  obtain ⟨hg33, h1⟩ := guardS h1
                  obtain ⟨g34, o38, hA35, hr36, hl37⟩ := RdS.get hr_a0 hg33.1 hg33.2
                  refine OpsT.cons (Does.yi (Yl.indexSlice (d := 54) (T := 35) (cc := c_a0) (k := .i64) (j := y8) (g := g34) (o := o38) (by kernel_rfl) Go.Proofs.Try.underlying35 ty49 hA35 hg33.1 hg33.2) hI ?_)
                  refine OpsT.pures (r := [34, 35, 36, 37, 38]) [33] [0, 1, 5, 7, 24, 51, 55] (S' := [(0, .slice A_a0 a0.length c_a0), (1, .int .i64 a1), (5, .bool y2), (7, .int .i64 y8), (24, .bool true), (51, .bool false), (55, .pointer (some ⟨g34, o38 + y8.toNat * 5 + 1, none⟩))]) (by kernel_rfl) ?_
                  refine OpsT.cons (Does.yi (Yl.load (d := 56) (T := 3) (v := .int .i64 ((gt a0 y8).Live)) (by kernel_rfl) (ldR ty3 (v := .int .i64 ((gt a0 y8).Live)) 1 (fun w hC => hr36 w0 w _ hC) (by kernel_rfl))) hI ?_)
                  refine OpsT.pures (r := []) [35, 36, 37, 38] [0, 1, 5, 7, 60] (S' := [(0, .slice A_a0 a0.length c_a0), (1, .int .i64 a1), (5, .bool y2), (7, .int .i64 y8), (60, .bool (decide (((gt a0 y8).Live) ≥ a1)))]) (by kernel_rfl) ?_
                  refine OpsT.done ?_
                  have e := someS h1
                  subst e
                  exact Qn.thenJ fun a ha => ⟨decide (((gt a0 y8).Live) ≥ a1), rfl, ha.keep [0, 1, 5, 7, 60] (by kernel_rfl), hI⟩
        · rw [if_neg hb10] at h1
          have hb10 : (decide (y8 ≥ 0)) = false := by simpa using hb10
          refine OpsT.keep [0, 1, 5, 7, 24] (S' := [(0, .slice A_a0 a0.length c_a0), (1, .int .i64 a1), (5, .bool y2), (7, .int .i64 y8), (24, .bool false)]) (by simp only [hb10]; kernel_rfl) ?_
          refine OpsT.pures (r := []) [3, 4, 5, 6, 7, 8, 9, 10, 11, 12, 13, 14, 15, 16, 17, 18, 19, 20, 21, 22, 23, 24, 25, 26, 27, 28, 29, 30, 31, 32, 33, 34, 35, 36, 37, 38] [0, 1, 5, 7, 60] (S' := [(0, .slice A_a0 a0.length c_a0), (1, .int .i64 a1), (5, .bool y2), (7, .int .i64 y8), (60, .bool false)]) (by kernel_rfl) ?_
          refine OpsT.done ?_
          have e := someS h1
          subst e
          exact Qn.thenJ fun a ha => ⟨false, rfl, ha.keep [0, 1, 5, 7, 60] (by kernel_rfl), hI⟩
      ·
        rintro a w ⟨x9, rfl, ha, hI⟩
        try dsimp only at h0
        refine CodT.of ?_ ha
        by_cases hb39 : x9 = true
        · rw [if_pos hb39] at h0
          refine CodT.yes' (b := x9) (by kernel_rfl) hb39 ?_
          refine CodT.seq ?_
          refine CodT.regionL [0] (by kernel_rfl) ?_
          refine OpsT.pures (r := []) [0] [4] (S' := [(4, .bool false)]) (by kernel_rfl) ?_
          refine OpsT.done ?_
          refine Qn.then ?_
          refine CodT.ret ?_
          refine Qn.ret_then ?_
          have e := someS h0
          subst e
          refine Qn.keep [4] (S' := [(4, .bool false)]) (by kernel_rfl) ?_
          exact post_ret (v := .bool false) (fun a ha => RunRes.run (vs := [.bool false]) (.tmp (t := 4) (by kernel_rfl) .nil) ha (by kernel_rfl)) ⟨rfl, hI⟩
        · rw [if_neg hb39] at h0
          refine CodT.no' (b := x9) (by kernel_rfl) (by simpa using hb39) ?_
          refine CodT.skip ?_
          refine Qn.then ?_
          refine CodT.seq ?_
          refine CodT.seq ?_
          refine CodT.regionL [0] (by kernel_rfl) ?_
          refine OpsT.pures (r := []) [0] [0, 1, 5, 7, 8] (S' := [(0, .slice A_a0 a0.length c_a0), (1, .int .i64 a1), (5, .bool y2), (7, .int .i64 y8), (8, .int .i64 0)]) (by kernel_rfl) ?_
          refine OpsT.done ?_
          refine Qn.then ?_
          obtain ⟨r1, h1, h0⟩ := bindS h0
          refine CodT.meet1 (fun a w => .inr () = r1 ∧ Fr 141 [(0, .slice A_a0 a0.length c_a0), (5, .bool y2)] a ∧ Inv w0 Z w A) ?_ ?_
          ·
            refine CodT.block ?_
            refine (fun a ha => wp_loopN (fun k a w => ∃ (x40 : Int), law17_PoolVictims.l0 a0 a1 y8 k x40 = some r1 ∧ Fr 141 [(0, .slice A_a0 a0.length c_a0), (1, .int .i64 a1), (5, .bool y2), (7, .int .i64 y8), (8, .int .i64 x40)] a ∧ Inv w0 Z w A) ?_ FU a w ⟨0, h1, ha.keep [0, 1, 5, 7, 8] (by kernel_rfl), hI⟩)
            clear h1 hI
            rintro k a w ⟨x40, h1, ha, hI⟩
            rcases k with _ | k
            · cases h1
            simp only [law17_PoolVictims.l0] at h1
            refine CodT.of ?_ ha
            refine CodT.seq ?_
            refine CodT.seq ?_
            refine CodT.regionL [0, 1, 2, 3] (by kernel_rfl) ?_
            refine OpsT.pures (r := []) [0, 1, 2, 3] [0, 1, 5, 7, 8, 64] (S' := [(0, .slice A_a0 a0.length c_a0), (1, .int .i64 a1), (5, .bool y2), (7, .int .i64 y8), (8, .int .i64 x40), (64, .bool (decide (x40 < (a0.length : Int))))]) (by kernel_rfl) ?_
            refine OpsT.done ?_
            refine Qn.then ?_
            by_cases hb41 : (decide (x40 < (a0.length : Int))) = true
            · rw [if_pos hb41] at h1
              refine CodT.yes' (b := decide (x40 < (a0.length : Int))) (by kernel_rfl) hb41 ?_
              refine CodT.skip ?_
              refine Qn.then ?_
              refine CodT.seq ?_
              refine CodT.block ?_
              refine CodT.seq ?_
              refine CodT.regionL [0, 1, 2, 3, 4, 5] (by kernel_rfl) ?_
              refine OpsT.pures (r := [2, 3, 4, 5]) [0, 1] [0, 1, 5, 7, 8, 67, 68] (S' := [(0, .slice A_a0 a0.length c_a0), (1, .int .i64 a1), (5, .bool y2), (7, .int .i64 y8), (8, .int .i64 x40), (67, .slice A_a0 a0.length c_a0), (68, .int .i64 x40)]) (by kernel_rfl) ?_
              obtain ⟨hg42, h1⟩ := guardS h1
              obtain ⟨g43, o47, hA44, hr45, hl46⟩ := RdS.get hr_a0 hg42.1 hg42.2
              refine OpsT.cons (Does.yi (Yl.indexSlice (d := 69) (T := 35) (cc := c_a0) (k := .i64) (j := x40) (g := g43) (o := o47) (by kernel_rfl) Go.Proofs.Try.underlying35 ty49 hA44 hg42.1 hg42.2) hI ?_)
              refine OpsT.cons (Does.yi (Yl.load (d := 70) (T := 49) (v := .agg (c_PoolUse (gt a0 x40)).toArray) (by kernel_rfl) (ldRN ty49 (cs := c_PoolUse (gt a0 x40)) 0 (fun w hC => hr45 w0 w _ hC) hl46 (whole _ _ hl46))) hI ?_)
              refine OpsT.cons (Does.allocL (d := 9) (T := 49) (c_PoolUse (PoolUse.mk 0 0 0 false false)) (by kernel_rfl) ty49 hI (by kernel_rfl) ?_)
              intro b48 w hI
              refine OpsT.cons (Does.storeLit (T := 49) (b := b48) (o := 0) (v := .agg (c_PoolUse (gt a0 x40)).toArray) (l := c_PoolUse (PoolUse.mk 0 0 0 false false)) (vs := c_PoolUse (gt a0 x40)) (L' := c_PoolUse (gt a0 x40)) (by kernel_rfl) ty49 hI (by kernel_rfl) (by kernel_rfl) (by kernel_rfl) (by kernel_rfl) (by kernel_rfl) ?_)
              intro w hI
              refine OpsT.done ?_
              refine Qn.then ?_
              obtain ⟨r2, h2, h1⟩ := bindS h1
              refine CodT.meet (fun a w => ∃ (x49 : Bool), x49 = r2 ∧ Fr 141 [(0, .slice A_a0 a0.length c_a0), (1, .int .i64 a1), (5, .bool y2), (7, .int .i64 y8), (8, .int .i64 x40), (103, .bool x49)] a ∧ Inv w0 Z w A) ?_ ?_
              ·
                refine CodT.drawI (n := 33) [] (by kernel_rfl) (by kernel_rfl) hI ?_
                intro w hI
                refine GmT.p' 0 71 (.pointer (some ⟨b48, 3, none⟩)) (by kernel_rfl) (by kernel_rfl) ?_
                refine GmT.r (i := 1) 2 (by kernel_rfl) (by kernel_rfl) (Yl.load (d := 72) (T := 4) (v := .bool ((gt a0 x40).Bad)) (by kernel_rfl) (ldB ty4 (l := c_PoolUse (gt a0 x40)) (o := 3) (v := .bool ((gt a0 x40).Bad)) (ent_refl _) (by kernel_rfl))) hI ?_
                refine GmT.p' 2 73 (.bool (!((gt a0 x40).Bad))) (by kernel_rfl) (by kernel_rfl) ?_
                refine GmT.p' 3 74 (.bool (!((gt a0 x40).Bad))) (by kernel_rfl) (by kernel_rfl) ?_
                by_cases hb50 : (!((gt a0 x40).Bad)) = true
                · rw [if_pos hb50] at h2
                  refine GmT.keep [0, 1, 5, 7, 8, 9, 74] (S' := [(0, .slice A_a0 a0.length c_a0), (1, .int .i64 a1), (5, .bool y2), (7, .int .i64 y8), (8, .int .i64 x40), (9, .pointer (some ⟨b48, 0, none⟩)), (74, .bool true)]) (by simp only [hb50]; kernel_rfl) ?_
                  refine GmT.p' 4 75 (.pointer (some ⟨b48, 4, none⟩)) (by kernel_rfl) (by kernel_rfl) ?_
                  refine GmT.r (i := 5) 2 (by kernel_rfl) (by kernel_rfl) (Yl.load (d := 76) (T := 4) (v := .bool ((gt a0 x40).Keep)) (by kernel_rfl) (ldB ty4 (l := c_PoolUse (gt a0 x40)) (o := 4) (v := .bool ((gt a0 x40).Keep)) (ent_refl _) (by kernel_rfl))) hI ?_
                  refine GmT.p' 6 77 (.bool (!((gt a0 x40).Keep))) (by kernel_rfl) (by kernel_rfl) ?_
                  refine GmT.p' 7 78 (.bool (!((gt a0 x40).Keep))) (by kernel_rfl) (by kernel_rfl) ?_
                  refine GmT.p' 8 79 (.bool (!((gt a0 x40).Keep))) (by kernel_rfl) (by kernel_rfl) ?_
                  by_cases hb51 : (!((gt a0 x40).Keep)) = true
                  · rw [if_pos hb51] at h2
                    refine GmT.keep [0, 1, 5, 7, 8, 9, 79] (S' := [(0, .slice A_a0 a0.length c_a0), (1, .int .i64 a1), (5, .bool y2), (7, .int .i64 y8), (8, .int .i64 x40), (9, .pointer (some ⟨b48, 0, none⟩)), (79, .bool true)]) (by simp only [hb51]; kernel_rfl) ?_
                    refine GmT.p' 9 80 (.pointer (some ⟨b48, 1, none⟩)) (by kernel_rfl) (by kernel_rfl) ?_
                    refine GmT.r (i := 10) 2 (by kernel_rfl) (by kernel_rfl) (Yl.load (d := 81) (T := 3) (v := .int .i64 ((gt a0 x40).Live)) (by kernel_rfl) (ldB ty3 (l := c_PoolUse (gt a0 x40)) (o := 1) (v := .int .i64 ((gt a0 x40).Live)) (ent_refl _) (by kernel_rfl))) hI ?_
                    refine GmT.p' 11 82 (.bool (decide (((gt a0 x40).Live) > 0))) (by kernel_rfl) (by kernel_rfl) ?_
                    refine GmT.p' 12 83 (.bool (decide (((gt a0 x40).Live) > 0))) (by kernel_rfl) (by kernel_rfl) ?_
                    refine GmT.p' 13 84 (.bool (decide (((gt a0 x40).Live) > 0))) (by kernel_rfl) (by kernel_rfl) ?_
                    by_cases hb52 : (decide (((gt a0 x40).Live) > 0)) = true
                    · rw [if_pos hb52] at h2
                      refine GmT.keep [0, 1, 5, 7, 8, 9, 84] (S' := [(0, .slice A_a0 a0.length c_a0), (1, .int .i64 a1), (5, .bool y2), (7, .int .i64 y8), (8, .int .i64 x40), (9, .pointer (some ⟨b48, 0, none⟩)), (84, .bool true)]) (by simp only [hb52]; kernel_rfl) ?_
                      refine GmT.p' 14 85 (.pointer (some ⟨b48, 1, none⟩)) (by kernel_rfl) (by kernel_rfl) ?_
                      refine GmT.p' 16 87 (.int .i64 a1) (by kernel_rfl) (by kernel_rfl) ?_
                      refine GmT.r (i := 15) 2 (by kernel_rfl) (by kernel_rfl) (Yl.load (d := 86) (T := 3) (v := .int .i64 ((gt a0 x40).Live)) (by kernel_rfl) (ldB ty3 (l := c_PoolUse (gt a0 x40)) (o := 1) (v := .int .i64 ((gt a0 x40).Live)) (ent_refl _) (by kernel_rfl))) hI ?_
                      refine GmT.p' 17 88 (.bool (decide (((gt a0 x40).Live) < a1))) (by kernel_rfl) (by kernel_rfl) ?_
                      refine GmT.p' 18 89 (.bool (decide (((gt a0 x40).Live) < a1))) (by kernel_rfl) (by kernel_rfl) ?_
                      refine GmT.p' 19 90 (.bool (decide (((gt a0 x40).Live) < a1))) (by kernel_rfl) (by kernel_rfl) ?_
                      by_cases hb53 : (decide (((gt a0 x40).Live) < a1)) = true
                      · rw [if_pos hb53] at h2
                        refine GmT.keep [0, 1, 5, 7, 8, 9, 90] (S' := [(0, .slice A_a0 a0.length c_a0), (1, .int .i64 a1), (5, .bool y2), (7, .int .i64 y8), (8, .int .i64 x40), (9, .pointer (some ⟨b48, 0, none⟩)), (90, .bool true)]) (by simp only [hb53]; kernel_rfl) ?_
                        refine GmT.p' 20 91 (.int .i64 y8) (by kernel_rfl) (by kernel_rfl) ?_
                        refine GmT.p' 21 92 (.bool (decide (y8 < 0))) (by kernel_rfl) (by kernel_rfl) ?_
                        refine GmT.p' 22 93 (.bool (decide (y8 < 0))) (by kernel_rfl) (by kernel_rfl) ?_
                        by_cases hb54 : (decide (y8 < 0)) = true
                        · rw [if_pos hb54] at h2
                          refine GmT.keep [0, 1, 5, 7, 8, 9, 90, 93] (S' := [(0, .slice A_a0 a0.length c_a0), (1, .int .i64 a1), (5, .bool y2), (7, .int .i64 y8), (8, .int .i64 x40), (9, .pointer (some ⟨b48, 0, none⟩)), (90, .bool true), (93, .bool true)]) (by simp only [hb54]; kernel_rfl) ?_
                          refine GmT.p' 23 94 (undef) (by kernel_rfl) (by kernel_rfl) ?_
                          refine GmT.p' 24 95 (undef) (by kernel_rfl) (by kernel_rfl) ?_
                          refine GmT.p' 25 96 (undef) (by kernel_rfl) (by kernel_rfl) ?_
                          refine GmT.p' 26 97 (undef) (by kernel_rfl) (by kernel_rfl) ?_
                          refine GmT.p' 27 98 (undef) (by kernel_rfl) (by kernel_rfl) ?_
                          refine GmT.p' 28 99 (undef) (by kernel_rfl) (by kernel_rfl) ?_
                          refine GmT.p' 29 100 (undef) (by kernel_rfl) (by kernel_rfl) ?_
                          refine GmT.p' 30 101 (undef) (by kernel_rfl) (by kernel_rfl) ?_
                          refine GmT.p' 31 102 (.bool true) (by kernel_rfl) (by kernel_rfl) ?_
                          refine GmT.p' 32 103 (.bool true) (by kernel_rfl) (by kernel_rfl) ?_
                          refine GmT.done (by kernel_rfl) ?_
                          have hI := hI.drop
                          have e := someS h2
                          subst e
                          exact Qn.thenJ fun a ha => ⟨true, rfl, ha.keep [0, 1, 5, 7, 8, 103] (by kernel_rfl), hI⟩
                        · rw [if_neg hb54] at h2
                          have hb54 : (decide (y8 < 0)) = false := by simpa using hb54
                          refine GmT.keep [0, 1, 5, 7, 8, 9, 90, 93] (S' := [(0, .slice A_a0 a0.length c_a0), (1, .int .i64 a1), (5, .bool y2), (7, .int .i64 y8), (8, .int .i64 x40), (9, .pointer (some ⟨b48, 0, none⟩)), (90, .bool true), (93, .bool false)]) (by simp only [hb54]; kernel_rfl) ?_
                          refine GmT.p' 23 94 (.pointer (some ⟨b48, 1, none⟩)) (by kernel_rfl) (by kernel_rfl) ?_
                          refine GmT.p' 25 96 (.slice A_a0 a0.length c_a0) (by kernel_rfl) (by kernel_rfl) ?_
                          refine GmT.p' 26 97 (.int .i64 y8) (by kernel_rfl) (by kernel_rfl) ?_
                          refine GmT.r (i := 24) 2 (by kernel_rfl) (by kernel_rfl) (Yl.load (d := 95) (T := 3) (v := .int .i64 ((gt a0 x40).Live)) (by kernel_rfl) (ldB ty3 (l := c_PoolUse (gt a0 x40)) (o := 1) (v := .int .i64 ((gt a0 x40).Live)) (ent_refl _) (by kernel_rfl))) hI ?_
                          obtain ⟨hg55, h2⟩ := guardS h2
                          obtain ⟨g56, o60, hA57, hr58, hl59⟩ := RdS.get hr_a0 hg55.1 hg55.2
                          refine GmT.r (i := 27) 2 (by kernel_rfl) (by kernel_rfl) (Yl.indexSlice (d := 98) (T := 35) (cc := c_a0) (k := .i64) (j := y8) (g := g56) (o := o60) (by kernel_rfl) Go.Proofs.Try.underlying35 ty49 hA57 hg55.1 hg55.2) hI ?_
                          refine GmT.p' 28 99 (.pointer (some ⟨g56, o60 + y8.toNat * 5 + 1, none⟩)) (by kernel_rfl) (by kernel_rfl) ?_
                          refine GmT.r (i := 29) 2 (by kernel_rfl) (by kernel_rfl) (Yl.load (d := 100) (T := 3) (v := .int .i64 ((gt a0 y8).Live)) (by kernel_rfl) (ldR ty3 (v := .int .i64 ((gt a0 y8).Live)) 1 (fun w hC => hr58 w0 w _ hC) (by kernel_rfl))) hI ?_
                          refine GmT.p' 30 101 (.bool (decide (((gt a0 x40).Live) < ((gt a0 y8).Live)))) (by kernel_rfl) (by kernel_rfl) ?_
                          refine GmT.p' 31 102 (.bool (decide (((gt a0 x40).Live) < ((gt a0 y8).Live)))) (by kernel_rfl) (by kernel_rfl) ?_
                          refine GmT.p' 32 103 (.bool (decide (((gt a0 x40).Live) < ((gt a0 y8).Live)))) (by kernel_rfl) (by kernel_rfl) ?_
                          refine GmT.done (by kernel_rfl) ?_
                          have hI := hI.drop
                          have e := someS h2
                          subst e
                          exact Qn.thenJ fun a ha => ⟨decide (((gt a0 x40).Live) < ((gt a0 y8).Live)), rfl, ha.keep [0, 1, 5, 7, 8, 103] (by kernel_rfl), hI⟩
                      · rw [if_neg hb53] at h2
                        have hb53 : (decide (((gt a0 x40).Live) < a1)) = false := by simpa using hb53
                        refine GmT.keep [0, 1, 5, 7, 8, 9, 90] (S' := [(0, .slice A_a0 a0.length c_a0), (1, .int .i64 a1), (5, .bool y2), (7, .int .i64 y8), (8, .int .i64 x40), (9, .pointer (some ⟨b48, 0, none⟩)), (90, .bool false)]) (by simp only [hb53]; kernel_rfl) ?_
                        refine GmT.p' 20 91 (undef) (by kernel_rfl) (by kernel_rfl) ?_
                        refine GmT.p' 21 92 (undef) (by kernel_rfl) (by kernel_rfl) ?_
                        refine GmT.p' 22 93 (undef) (by kernel_rfl) (by kernel_rfl) ?_
                        refine GmT.p' 23 94 (undef) (by kernel_rfl) (by kernel_rfl) ?_
                        refine GmT.p' 24 95 (undef) (by kernel_rfl) (by kernel_rfl) ?_
                        refine GmT.p' 25 96 (undef) (by kernel_rfl) (by kernel_rfl) ?_
                        refine GmT.p' 26 97 (undef) (by kernel_rfl) (by kernel_rfl) ?_
                        refine GmT.p' 27 98 (undef) (by kernel_rfl) (by kernel_rfl) ?_
                        refine GmT.p' 28 99 (undef) (by kernel_rfl) (by kernel_rfl) ?_
                        refine GmT.p' 29 100 (undef) (by kernel_rfl) (by kernel_rfl) ?_
                        refine GmT.p' 30 101 (undef) (by kernel_rfl) (by kernel_rfl) ?_
                        refine GmT.p' 31 102 (undef) (by kernel_rfl) (by kernel_rfl) ?_
                        refine GmT.p' 32 103 (.bool false) (by kernel_rfl) (by kernel_rfl) ?_
                        refine GmT.done (by kernel_rfl) ?_
                        have hI := hI.drop
                        have e := someS h2
                        subst e
                        exact Qn.thenJ fun a ha => ⟨false, rfl, ha.keep [0, 1, 5, 7, 8, 103] (by kernel_rfl), hI⟩
                    · rw [if_neg hb52] at h2
                      have hb52 : (decide (((gt a0 x40).Live) > 0)) = false := by simpa using hb52
                      refine GmT.keep [0, 1, 5, 7, 8, 9, 84] (S' := [(0, .slice A_a0 a0.length c_a0), (1, .int .i64 a1), (5, .bool y2), (7, .int .i64 y8), (8, .int .i64 x40), (9, .pointer (some ⟨b48, 0, none⟩)), (84, .bool false)]) (by simp only [hb52]; kernel_rfl) ?_
                      refine GmT.p' 14 85 (undef) (by kernel_rfl) (by kernel_rfl) ?_
                      refine GmT.p' 15 86 (undef) (by kernel_rfl) (by kernel_rfl) ?_
                      refine GmT.p' 16 87 (undef) (by kernel_rfl) (by kernel_rfl) ?_
                      refine GmT.p' 17 88 (undef) (by kernel_rfl) (by kernel_rfl) ?_
                      refine GmT.p' 18 89 (.bool false) (by kernel_rfl) (by kernel_rfl) ?_
                      refine GmT.p' 19 90 (.bool false) (by kernel_rfl) (by kernel_rfl) ?_
                      refine GmT.p' 20 91 (undef) (by kernel_rfl) (by kernel_rfl) ?_
                      refine GmT.p' 21 92 (undef) (by kernel_rfl) (by kernel_rfl) ?_
                      refine GmT.p' 22 93 (undef) (by kernel_rfl) (by kernel_rfl) ?_
                      refine GmT.p' 23 94 (undef) (by kernel_rfl) (by kernel_rfl) ?_
                      refine GmT.p' 24 95 (undef) (by kernel_rfl) (by kernel_rfl) ?_
                      refine GmT.p' 25 96 (undef) (by kernel_rfl) (by kernel_rfl) ?_
                      refine GmT.p' 26 97 (undef) (by kernel_rfl) (by kernel_rfl) ?_
                      refine GmT.p' 27 98 (undef) (by kernel_rfl) (by kernel_rfl) ?_
                      refine GmT.p' 28 99 (undef) (by kernel_rfl) (by kernel_rfl) ?_
                      refine GmT.p' 29 100 (undef) (by kernel_rfl) (by kernel_rfl) ?_
                      refine GmT.p' 30 101 (undef) (by kernel_rfl) (by kernel_rfl) ?_
                      refine GmT.p' 31 102 (undef) (by kernel_rfl) (by kernel_rfl) ?_
                      refine GmT.p' 32 103 (.bool false) (by kernel_rfl) (by kernel_rfl) ?_
                      refine GmT.done (by kernel_rfl) ?_
                      have hI := hI.drop
                      have e := someS h2
                      subst e
                      exact Qn.thenJ fun a ha => ⟨false, rfl, ha.keep [0, 1, 5, 7, 8, 103] (by kernel_rfl), hI⟩
                  · rw [if_neg hb51] at h2
                    have hb51 : (!((gt a0 x40).Keep)) = false := by simpa using hb51
                    refine GmT.keep [0, 1, 5, 7, 8, 9, 79] (S' := [(0, .slice A_a0 a0.length c_a0), (1, .int .i64 a1), (5, .bool y2), (7, .int .i64 y8), (8, .int .i64 x40), (9, .pointer (some ⟨b48, 0, none⟩)), (79, .bool false)]) (by simp only [hb51]; kernel_rfl) ?_
                    refine GmT.p' 9 80 (undef) (by kernel_rfl) (by kernel_rfl) ?_
                    refine GmT.p' 10 81 (undef) (by kernel_rfl) (by kernel_rfl) ?_
                    refine GmT.p' 11 82 (undef) (by kernel_rfl) (by kernel_rfl) ?_
                    refine GmT.p' 12 83 (.bool false) (by kernel_rfl) (by kernel_rfl) ?_
                    refine GmT.p' 13 84 (.bool false) (by kernel_rfl) (by kernel_rfl) ?_
                    refine GmT.p' 14 85 (undef) (by kernel_rfl) (by kernel_rfl) ?_
                    refine GmT.p' 15 86 (undef) (by kernel_rfl) (by kernel_rfl) ?_
                    refine GmT.p' 16 87 (undef) (by kernel_rfl) (by kernel_rfl) ?_
                    refine GmT.p' 17 88 (undef) (by kernel_rfl) (by kernel_rfl) ?_
                    refine GmT.p' 18 89 (.bool false) (by kernel_rfl) (by kernel_rfl) ?_
                    refine GmT.p' 19 90 (.bool false) (by kernel_rfl) (by kernel_rfl) ?_
                    refine GmT.p' 20 91 (undef) (by kernel_rfl) (by kernel_rfl) ?_
                    refine GmT.p' 21 92 (undef) (by kernel_rfl) (by kernel_rfl) ?_
                    refine GmT.p' 22 93 (undef) (by kernel_rfl) (by kernel_rfl) ?_
                    refine GmT.p' 23 94 (undef) (by kernel_rfl) (by kernel_rfl) ?_
                    refine GmT.p' 24 95 (undef) (by kernel_rfl) (by kernel_rfl) ?_
                    refine GmT.p' 25 96 (undef) (by kernel_rfl) (by kernel_rfl) ?_
                    refine GmT.p' 26 97 (undef) (by kernel_rfl) (by kernel_rfl) ?_
                    refine GmT.p' 27 98 (undef) (by kernel_rfl) (by kernel_rfl) ?_
                    refine GmT.p' 28 99 (undef) (by kernel_rfl) (by kernel_rfl) ?_
                    refine GmT.p' 29 100 (undef) (by kernel_rfl) (by kernel_rfl) ?_
                    refine GmT.p' 30 101 (undef) (by kernel_rfl) (by kernel_rfl) ?_
                    refine GmT.p' 31 102 (undef) (by kernel_rfl) (by kernel_rfl) ?_
                    refine GmT.p' 32 103 (.bool false) (by kernel_rfl) (by kernel_rfl) ?_
                    refine GmT.done (by kernel_rfl) ?_
                    have hI := hI.drop
                    have e := someS h2
                    subst e
                    exact Qn.thenJ fun a ha => ⟨false, rfl, ha.keep [0, 1, 5, 7, 8, 103] (by kernel_rfl), hI⟩
                · rw [if_neg hb50] at h2
                  have hb50 : (!((gt a0 x40).Bad)) = false := by simpa using hb50
                  refine GmT.keep [0, 1, 5, 7, 8, 9, 74] (S' := [(0, .slice A_a0 a0.length c_a0), (1, .int .i64 a1), (5, .bool y2), (7, .int .i64 y8), (8, .int .i64 x40), (9, .pointer (some ⟨b48, 0, none⟩)), (74, .bool false)]) (by simp only [hb50]; kernel_rfl) ?_
                  refine GmT.p' 4 75 (undef) (by kernel_rfl) (by kernel_rfl) ?_
                  refine GmT.p' 5 76 (undef) (by kernel_rfl) (by kernel_rfl) ?_
                  refine GmT.p' 6 77 (undef) (by kernel_rfl) (by kernel_rfl) ?_
                  refine GmT.p' 7 78 (.bool false) (by kernel_rfl) (by kernel_rfl) ?_
                  refine GmT.p' 8 79 (.bool false) (by kernel_rfl) (by kernel_rfl) ?_
                  refine GmT.p' 9 80 (undef) (by kernel_rfl) (by kernel_rfl) ?_
                  refine GmT.p' 10 81 (undef) (by kernel_rfl) (by kernel_rfl) ?_
                  refine GmT.p' 11 82 (undef) (by kernel_rfl) (by kernel_rfl) ?_
                  refine GmT.p' 12 83 (.bool false) (by kernel_rfl) (by kernel_rfl) ?_
                  refine GmT.p' 13 84 (.bool false) (by kernel_rfl) (by kernel_rfl) ?_
                  refine GmT.p' 14 85 (undef) (by kernel_rfl) (by kernel_rfl) ?_
                  refine GmT.p' 15 86 (undef) (by kernel_rfl) (by kernel_rfl) ?_
                  refine GmT.p' 16 87 (undef) (by kernel_rfl) (by kernel_rfl) ?_
                  refine GmT.p' 17 88 (undef) (by kernel_rfl) (by kernel_rfl) ?_
                  refine GmT.p' 18 89 (.bool false) (by kernel_rfl) (by kernel_rfl) ?_
                  refine GmT.p' 19 90 (.bool false) (by kernel_rfl) (by kernel_rfl) ?_
                  refine GmT.p' 20 91 (undef) (by kernel_rfl) (by kernel_rfl) ?_
                  refine GmT.p' 21 92 (undef) (by kernel_rfl) (by kernel_rfl) ?_
                  refine GmT.p' 22 93 (undef) (by kernel_rfl) (by kernel_rfl) ?_
                  refine GmT.p' 23 94 (undef) (by kernel_rfl) (by kernel_rfl) ?_
                  refine GmT.p' 24 95 (undef) (by kernel_rfl) (by kernel_rfl) ?_
                  refine GmT.p' 25 96 (undef) (by kernel_rfl) (by kernel_rfl) ?_
                  refine GmT.p' 26 97 (undef) (by kernel_rfl) (by kernel_rfl) ?_
                  refine GmT.p' 27 98 (undef) (by kernel_rfl) (by kernel_rfl) ?_
                  refine GmT.p' 28 99 (undef) (by kernel_rfl) (by kernel_rfl) ?_
                  refine GmT.p' 29 100 (undef) (by kernel_rfl) (by kernel_rfl) ?_
                  refine GmT.p' 30 101 (undef) (by kernel_rfl) (by kernel_rfl) ?_
                  refine GmT.p' 31 102 (undef) (by kernel_rfl) (by kernel_rfl) ?_
                  refine GmT.p' 32 103 (.bool false) (by kernel_rfl) (by kernel_rfl) ?_
                  refine GmT.done (by kernel_rfl) ?_
                  have hI := hI.drop
                  have e := someS h2
                  subst e
                  exact Qn.thenJ fun a ha => ⟨false, rfl, ha.keep [0, 1, 5, 7, 8, 103] (by kernel_rfl), hI⟩
              ·
                rintro a w ⟨x49, rfl, ha, hI⟩
                try dsimp only at h1
                refine CodT.of ?_ ha
                by_cases hb61 : x49 = true
                · rw [if_pos hb61] at h1
                  refine CodT.yes' (b := x49) (by kernel_rfl) hb61 ?_
                  refine CodT.seq ?_
                  refine CodT.regionL [0] (by kernel_rfl) ?_
                  refine OpsT.pures (r := []) [0] [4] (S' := [(4, .bool false)]) (by kernel_rfl) ?_
                  refine OpsT.done ?_
                  refine Qn.then ?_
                  refine CodT.ret ?_
                  refine Qn.block_ret ?_
                  refine Qn.ret_then ?_
                  refine Qn.ret_then ?_
                  refine Qn.block_ret ?_
                  refine Qn.ret_then ?_
                  refine Qn.ret_then ?_
                  have e := someS h1
                  subst e
                  try dsimp only at h0
                  have e := someS h0
                  subst e
                  refine Qn.keep [4] (S' := [(4, .bool false)]) (by kernel_rfl) ?_
                  exact post_ret (v := .bool false) (fun a ha => RunRes.run (vs := [.bool false]) (.tmp (t := 4) (by kernel_rfl) .nil) ha (by kernel_rfl)) ⟨rfl, hI⟩
                · rw [if_neg hb61] at h1
                  refine CodT.no' (b := x49) (by kernel_rfl) (by simpa using hb61) ?_
                  refine CodT.skip ?_
                  refine Qn.block_normal ?_
                  refine Qn.then ?_
                  refine CodT.regionL [0, 1, 2] (by kernel_rfl) ?_
                  refine OpsT.pures (r := []) [0, 1, 2] [0, 1, 5, 7, 8] (S' := [(0, .slice A_a0 a0.length c_a0), (1, .int .i64 a1), (5, .bool y2), (7, .int .i64 y8), (8, .int .i64 (wi64 (x40 + 1)))]) (by kernel_rfl) ?_
                  refine OpsT.done ?_
                  exact Qn.thenJ fun a ha => ⟨k, Nat.lt_succ_self k, wi64 (x40 + 1), h1, ha.keep [0, 1, 5, 7, 8] (by kernel_rfl), hI⟩
            · rw [if_neg hb41] at h1
              refine CodT.no' (b := decide (x40 < (a0.length : Int))) (by kernel_rfl) (by simpa using hb41) ?_
              refine CodT.exit ?_
              refine Qn.exit_then ?_
              refine Qn.exit_then ?_
              refine Qn.block ?_
              have e := someS h1
              subst e
              exact Qn.thenJ fun a ha => ⟨rfl, ha.keep [0, 5] (by kernel_rfl), hI⟩
          ·
            rintro a w ⟨rfl, ha, hI⟩
            try dsimp only at h0
            refine Qn.of ?_ ha
            refine Qn.then ?_
            refine CodT.seq ?_
            refine CodT.regionL [0, 1, 2] (by kernel_rfl) ?_
            refine OpsT.pures (r := [1, 2]) [0] [0, 5, 104] (S' := [(0, .slice A_a0 a0.length c_a0), (5, .bool y2), (104, .slice A_a0 a0.length c_a0)]) (by kernel_rfl) ?_
            obtain ⟨y63, hc62, h0⟩ := bindS h0
            try dsimp only at h0
            refine OpsT.cons (Does.call (d := some 105) (n := 36) (vs := [.slice A_a0 a0.length c_a0]) (by kernel_rfl) en36 (c36 w0 w _ _ hI A_a0 c_a0 a0 hr_a0 _ hc62) ?_)
            rintro e w ⟨rfl, hI⟩
            refine ⟨_, rfl, ?_⟩
            refine OpsT.pures (r := []) [2] [0, 5, 10] (S' := [(0, .slice A_a0 a0.length c_a0), (5, .bool y2), (10, .int .i64 y63)]) (by kernel_rfl) ?_
            refine OpsT.done ?_
            refine Qn.then ?_
            obtain ⟨r1, h1, h0⟩ := bindS h0
            refine CodT.meet (fun a w => ∃ (x64 : Bool), x64 = r1 ∧ Fr 141 [(4, .bool x64)] a ∧ Inv w0 Z w A) ?_ ?_
            ·
              refine CodT.regionL [0, 1, 2, 3, 4, 5, 6, 7, 8, 9, 10, 11, 12, 13, 14, 15, 16, 17, 18, 19, 20, 21, 22, 23, 24, 25, 26, 27, 28, 29, 30, 31, 32, 33, 34, 35] (by kernel_rfl) ?_
              refine OpsT.pures (r := [2, 3, 4, 5, 6, 7, 8, 9, 10, 11, 12, 13, 14, 15, 16, 17, 18, 19, 20, 21, 22, 23, 24, 25, 26, 27, 28, 29, 30, 31, 32, 33, 34, 35]) [0, 1] [0, 10, 107] (S' := [(0, .slice A_a0 a0.length c_a0), (10, .int .i64 y63), (107, .bool y2)]) (by kernel_rfl) ?_
              by_cases hb65 : y2 = true
              · rw [if_pos hb65] at h1
                refine OpsT.keep [0, 10, 107] (S' := [(0, .slice A_a0 a0.length c_a0), (10, .int .i64 y63), (107, .bool true)]) (by simp only [hb65]; kernel_rfl) ?_
                refine OpsT.pures (r := [5, 6, 7, 8, 9, 10, 11, 12, 13, 14, 15, 16, 17, 18, 19, 20, 21, 22, 23, 24, 25, 26, 27, 28, 29, 30, 31, 32, 33, 34, 35]) [2, 3, 4] [0, 10, 107, 110] (S' := [(0, .slice A_a0 a0.length c_a0), (10, .int .i64 y63), (107, .bool true), (110, .bool (decide (y63 < 0)))]) (by kernel_rfl) ?_
                by_cases hb66 : (decide (y63 < 0)) = true
                · rw [if_pos hb66] at h1
                  refine OpsT.keep [0, 10, 107, 110] (S' := [(0, .slice A_a0 a0.length c_a0), (10, .int .i64 y63), (107, .bool true), (110, .bool true)]) (by simp only [hb66]; kernel_rfl) ?_
                  refine OpsT.pures (r := []) [5, 6, 7, 8, 9, 10, 11, 12, 13, 14, 15, 16, 17, 18, 19, 20, 21, 22, 23, 24, 25, 26, 27, 28, 29, 30, 31, 32, 33, 34, 35] [4] (S' := [(4, .bool true)]) (by kernel_rfl) ?_
                  refine OpsT.done ?_
                  have e := someS h1
                  subst e
                  exact Qn.thenJ fun a ha => ⟨true, rfl, ha.keep [4] (by kernel_rfl), hI⟩
                · rw [if_neg hb66] at h1
                  have hb66 : (decide (y63 < 0)) = false := by simpa using hb66
                  refine OpsT.keep [0, 10, 107, 110] (S' := [(0, .slice A_a0 a0.length c_a0), (10, .int .i64 y63), (107, .bool true), (110, .bool false)]) (by simp only [hb66]; kernel_rfl) ?_
                  refine OpsT.pures (r := [10, 11, 12, 13, 14, 15, 16, 17, 18, 19, 20, 21, 22, 23, 24, 25, 26, 27, 28, 29, 30, 31, 32, 33, 34, 35]) [5, 6, 7, 8, 9] [0, 10, 107, 110, 115] (S' := [(0, .slice A_a0 a0.length c_a0), (10, .int .i64 y63), (107, .bool true), (110, .bool false), (115, .bool (decide (y63 < (a0.length : Int))))]) (by kernel_rfl) ?_
                  by_cases hb67 : (decide (y63 < (a0.length : Int))) = true
                  · rw [if_pos hb67] at h1
                    refine OpsT.keep [0, 10, 107, 110, 115] (S' := [(0, .slice A_a0 a0.length c_a0), (10, .int .i64 y63), (107, .bool true), (110, .bool false), (115, .bool true)]) (by simp only [hb67]; kernel_rfl) ?_
                    refine OpsT.pures (r := [12, 13, 14, 15, 16, 17, 18, 19, 20, 21, 22, 23, 24, 25, 26, 27, 28, 29, 30, 31, 32, 33, 34, 35]) [10, 11] [0, 10, 107, 110, 115, 116, 117] (S' := [(0, .slice A_a0 a0.length c_a0), (10, .int .i64 y63), (107, .bool true), (110, .bool false), (115, .bool true), (116, .slice A_a0 a0.length c_a0), (117, .int .i64 y63)]) (by kernel_rfl) ?_
                    obtain ⟨hg68, h1⟩ := guardS h1
                    obtain ⟨g69, o73, hA70, hr71, hl72⟩ := RdS.get hr_a0 hg68.1 hg68.2
                    refine OpsT.cons (Does.yi (Yl.indexSlice (d := 118) (T := 35) (cc := c_a0) (k := .i64) (j := y63) (g := g69) (o := o73) (by kernel_rfl) Go.Proofs.Try.underlying35 ty49 hA70 hg68.1 hg68.2) hI ?_)
                    refine OpsT.pures (r := [14, 15, 16, 17, 18, 19, 20, 21, 22, 23, 24, 25, 26, 27, 28, 29, 30, 31, 32, 33, 34, 35]) [13] [0, 10, 107, 110, 115, 119] (S' := [(0, .slice A_a0 a0.length c_a0), (10, .int .i64 y63), (107, .bool true), (110, .bool false), (115, .bool true), (119, .pointer (some ⟨g69, o73 + y63.toNat * 5 + 1, none⟩))]) (by kernel_rfl) ?_
                    refine OpsT.cons (Does.yi (Yl.load (d := 120) (T := 3) (v := .int .i64 ((gt a0 y63).Live)) (by kernel_rfl) (ldR ty3 (v := .int .i64 ((gt a0 y63).Live)) 1 (fun w hC => hr71 w0 w _ hC) (by kernel_rfl))) hI ?_)
                    refine OpsT.pures (r := [18, 19, 20, 21, 22, 23, 24, 25, 26, 27, 28, 29, 30, 31, 32, 33, 34, 35]) [15, 16, 17] [0, 10, 107, 110, 123] (S' := [(0, .slice A_a0 a0.length c_a0), (10, .int .i64 y63), (107, .bool true), (110, .bool false), (123, .bool (decide (((gt a0 y63).Live) > 0)))]) (by kernel_rfl) ?_
                    by_cases hb74 : (decide (((gt a0 y63).Live) > 0)) = true
                    · rw [if_pos hb74] at h1
                      refine OpsT.keep [0, 10, 107, 110, 123] (S' := [(0, .slice A_a0 a0.length c_a0), (10, .int .i64 y63), (107, .bool true), (110, .bool false), (123, .bool true)]) (by simp only [hb74]; kernel_rfl) ?_
                      refine OpsT.pures (r := [20, 21, 22, 23, 24, 25, 26, 27, 28, 29, 30, 31, 32, 33, 34, 35]) [18, 19] [0, 10, 107, 110, 123, 124, 125] (S' := [(0, .slice A_a0 a0.length c_a0), (10, .int .i64 y63), (107, .bool true), (110, .bool false), (123, .bool true), (124, .slice A_a0 a0.length c_a0), (125, .int .i64 y63)]) (by kernel_rfl) ?_
                      obtain ⟨hg75, h1⟩ := guardS h1
                      obtain ⟨g76, o80, hA77, hr78, hl79⟩ := RdS.get hr_a0 hg75.1 hg75.2
                      refine OpsT.cons (Does.yi (Yl.indexSlice (d := 126) (T := 35) (cc := c_a0) (k := .i64) (j := y63) (g := g76) (o := o80) (by kernel_rfl) Go.Proofs.Try.underlying35 ty49 hA77 hg75.1 hg75.2) hI ?_)
                      refine OpsT.pures (r := [22, 23, 24, 25, 26, 27, 28, 29, 30, 31, 32, 33, 34, 35]) [21] [0, 10, 107, 110, 123, 127] (S' := [(0, .slice A_a0 a0.length c_a0), (10, .int .i64 y63), (107, .bool true), (110, .bool false), (123, .bool true), (127, .pointer (some ⟨g76, o80 + y63.toNat * 5 + 3, none⟩))]) (by kernel_rfl) ?_
                      refine OpsT.cons (Does.yi (Yl.load (d := 128) (T := 4) (v := .bool ((gt a0 y63).Bad)) (by kernel_rfl) (ldR ty4 (v := .bool ((gt a0 y63).Bad)) 3 (fun w hC => hr78 w0 w _ hC) (by kernel_rfl))) hI ?_)
                      refine OpsT.pures (r := [26, 27, 28, 29, 30, 31, 32, 33, 34, 35]) [23, 24, 25] [0, 10, 107, 110, 131] (S' := [(0, .slice A_a0 a0.length c_a0), (10, .int .i64 y63), (107, .bool true), (110, .bool false), (131, .bool (!((gt a0 y63).Bad)))]) (by kernel_rfl) ?_
                      by_cases hb81 : (!((gt a0 y63).Bad)) = true
                      · rw [if_pos hb81] at h1
                        refine OpsT.keep [0, 10, 107, 110, 131] (S' := [(0, .slice A_a0 a0.length c_a0), (10, .int .i64 y63), (107, .bool true), (110, .bool false), (131, .bool true)]) (by simp only [hb81]; kernel_rfl) ?_
                        refine OpsT.pures (r := [28, 29, 30, 31, 32, 33, 34, 35]) [26, 27] [107, 110, 131, 132, 133] (S' := [(107, .bool true), (110, .bool false), (131, .bool true), (132, .slice A_a0 a0.length c_a0), (133, .int .i64 y63)]) (by kernel_rfl) ?_
                        obtain ⟨hg82, h1⟩ := guardS h1
                        obtain ⟨g83, o87, hA84, hr85, hl86⟩ := RdS.get hr_a0 hg82.1 hg82.2
                        refine OpsT.cons (Does.yi (Yl.indexSlice (d := 134) (T := 35) (cc := c_a0) (k := .i64) (j := y63) (g := g83) (o := o87) (by kernel_rfl) Go.Proofs.Try.underlying35 ty49 hA84 hg82.1 hg82.2) hI ?_)
                        refine OpsT.pures (r := [30, 31, 32, 33, 34, 35]) [29] [107, 110, 131, 135] (S' := [(107, .bool true), (110, .bool false), (131, .bool true), (135, .pointer (some ⟨g83, o87 + y63.toNat * 5 + 4, none⟩))]) (by kernel_rfl) ?_
                        refine OpsT.cons (Does.yi (Yl.load (d := 136) (T := 4) (v := .bool ((gt a0 y63).Keep)) (by kernel_rfl) (ldR ty4 (v := .bool ((gt a0 y63).Keep)) 4 (fun w hC => hr85 w0 w _ hC) (by kernel_rfl))) hI ?_)
                        refine OpsT.pures (r := []) [31, 32, 33, 34, 35] [4] (S' := [(4, .bool (!((gt a0 y63).Keep)))]) (by kernel_rfl) ?_
                        refine OpsT.done ?_
                        have e := someS h1
                        subst e
                        exact Qn.thenJ fun a ha => ⟨!((gt a0 y63).Keep), rfl, ha.keep [4] (by kernel_rfl), hI⟩
                      · rw [if_neg hb81] at h1
                        have hb81 : (!((gt a0 y63).Bad)) = false := by simpa using hb81
                        refine OpsT.keep [0, 10, 107, 110, 131] (S' := [(0, .slice A_a0 a0.length c_a0), (10, .int .i64 y63), (107, .bool true), (110, .bool false), (131, .bool false)]) (by simp only [hb81]; kernel_rfl) ?_
                        refine OpsT.pures (r := []) [26, 27, 28, 29, 30, 31, 32, 33, 34, 35] [4] (S' := [(4, .bool false)]) (by kernel_rfl) ?_
                        refine OpsT.done ?_
                        have e := someS h1
                        subst e
                        exact Qn.thenJ fun a ha => ⟨false, rfl, ha.keep [4] (by kernel_rfl), hI⟩
                    · rw [if_neg hb74] at h1
                      have hb74 : (decide (((gt a0 y63).Live) > 0)) = false := by simpa using hb74
                      refine OpsT.keep [0, 10, 107, 110, 123] (S' := [(0, .slice A_a0 a0.length c_a0), (10, .int .i64 y63), (107, .bool true), (110, .bool false), (123, .bool false)]) (by simp only [hb74]; kernel_rfl) ?_
                      refine OpsT.pures (r := []) [18, 19, 20, 21, 22, 23, 24, 25, 26, 27, 28, 29, 30, 31, 32, 33, 34, 35] [4] (S' := [(4, .bool false)]) (by kernel_rfl) ?_
                      refine OpsT.done ?_
                      have e := someS h1
                      subst e
                      exact Qn.thenJ fun a ha => ⟨false, rfl, ha.keep [4] (by kernel_rfl), hI⟩
                  · rw [if_neg hb67] at h1
                    have hb67 : (decide (y63 < (a0.length : Int))) = false := by simpa using hb67
                    refine OpsT.keep [0, 10, 107, 110, 115] (S' := [(0, .slice A_a0 a0.length c_a0), (10, .int .i64 y63), (107, .bool true), (110, .bool false), (115, .bool false)]) (by simp only [hb67]; kernel_rfl) ?_
                    refine OpsT.pures (r := []) [10, 11, 12, 13, 14, 15, 16, 17, 18, 19, 20, 21, 22, 23, 24, 25, 26, 27, 28, 29, 30, 31, 32, 33, 34, 35] [4] (S' := [(4, .bool false)]) (by kernel_rfl) ?_
                    refine OpsT.done ?_
                    have e := someS h1
                    subst e
                    exact Qn.thenJ fun a ha => ⟨false, rfl, ha.keep [4] (by kernel_rfl), hI⟩
              · rw [if_neg hb65] at h1
                have hb65 : y2 = false := by simpa using hb65
                refine OpsT.keep [0, 10, 107] (S' := [(0, .slice A_a0 a0.length c_a0), (10, .int .i64 y63), (107, .bool false)]) (by simp only [hb65]; kernel_rfl) ?_
                refine OpsT.pures (r := []) [2, 3, 4, 5, 6, 7, 8, 9, 10, 11, 12, 13, 14, 15, 16, 17, 18, 19, 20, 21, 22, 23, 24, 25, 26, 27, 28, 29, 30, 31, 32, 33, 34, 35] [4] (S' := [(4, .bool false)]) (by kernel_rfl) ?_
                refine OpsT.done ?_
                have e := someS h1
                subst e
                exact Qn.thenJ fun a ha => ⟨false, rfl, ha.keep [4] (by kernel_rfl), hI⟩
            ·
              rintro a w ⟨x64, rfl, ha, hI⟩
              try dsimp only at h0
              refine CodT.of ?_ ha
              refine CodT.ret ?_
              have e := someS h0
              subst e
              refine Qn.keep [4] (S' := [(4, .bool x64)]) (by kernel_rfl) ?_
              exact post_ret (v := .bool x64) (fun a ha => RunRes.run (vs := [.bool x64]) (.tmp (t := 4) (by kernel_rfl) .nil) ha (by kernel_rfl)) ⟨rfl, hI⟩
end Go.Cen
