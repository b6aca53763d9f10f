/- The walk of the law PoolPicks, printed by a program of ours. -/
import Derived.Test.YthdoklobbcedcaaWq2
set_option linter.unusedVariables false
set_option linter.unusedSimpArgs false
namespace Go.Cen
set_option maxRecDepth 100000 in
set_option maxHeartbeats 4000000 in
/-- cenotaph/cenotaphlaw17.PoolPicks -/
theorem c10 (w0 w : World) (Z : Hp) (A : HP)  (hI : Inv w0 Z w A) (A_a0 : Option Addr) (c_a0 : Nat) (a0 : (List PoolUse)) (hr_a0 : RdS Z c_PoolUse 5 A_a0 c_a0 a0) (r : Bool) (h0 : law17_PoolPicks a0 = some r) :
    Calls prog 10 #[.slice A_a0 a0.length c_a0] w (fun e w' => e = .returned (.bool r) ∧ Inv w0 Z w' A) := by
  refine calls_intro (args := [.slice A_a0 a0.length c_a0]) (fn := Go.Proofs.Try.f10) 79 Go.Proofs.Try.func10 (by rfl) Go.Proofs.Try.ntmps10 (by kernel_rfl) ?_
  unfold law17_PoolPicks at h0
  refine CodT.seq ?_
  refine CodT.regionL [0] (by kernel_rfl) ?_
  refine OpsT.pures (r := []) [0] [0] (S' := [(0, .slice A_a0 a0.length c_a0)]) (by kernel_rfl) ?_
  refine OpsT.done ?_
  refine Qn.then ?_
  refine CodT.seq ?_
  refine CodT.regionL [0, 1] (by kernel_rfl) ?_
  obtain ⟨y2, hc1, h0⟩ := bindS h0
  try dsimp only at h0
  refine OpsT.cons (Does.call (d := some 9) (n := 24) (vs := []) (by kernel_rfl) en24 (c24 w0 w _ _ hI _ hc1) ?_)
  rintro e w ⟨rfl, hI⟩
  refine ⟨_, rfl, ?_⟩
  refine OpsT.pures (r := []) [1] [0, 3] (S' := [(0, .slice A_a0 a0.length c_a0), (3, .bool y2)]) (by kernel_rfl) ?_
  refine OpsT.done ?_
  refine Qn.then ?_
  refine CodT.seq ?_
  refine CodT.seq ?_
  refine CodT.regionL [0, 1] (by kernel_rfl) ?_
  refine OpsT.pures (r := []) [0, 1] [0, 3, 11] (S' := [(0, .slice A_a0 a0.length c_a0), (3, .bool y2), (11, .bool (!y2))]) (by kernel_rfl) ?_
  refine OpsT.done ?_
  refine Qn.then ?_
  by_cases hb3 : (!y2) = true
  · rw [if_pos hb3] at h0
    refine CodT.yes' (b := !y2) (by kernel_rfl) hb3 ?_
    refine CodT.seq ?_
    refine CodT.regionL [0] (by kernel_rfl) ?_
    refine OpsT.pures (r := []) [0] [2] (S' := [(2, .bool false)]) (by kernel_rfl) ?_
    refine OpsT.done ?_
    refine Qn.then ?_
    refine CodT.ret ?_
    refine Qn.ret_then ?_
    have e := someS h0
    subst e
    refine Qn.keep [2] (S' := [(2, .bool false)]) (by kernel_rfl) ?_
    exact post_ret (v := .bool false) (fun a ha => RunRes.run (vs := [.bool false]) (.tmp (t := 2) (by kernel_rfl) .nil) ha (by kernel_rfl)) ⟨rfl, hI⟩
  · rw [if_neg hb3] at h0
    refine CodT.no' (b := !y2) (by kernel_rfl) (by simpa using hb3) ?_
    refine CodT.skip ?_
    refine Qn.then ?_
    refine CodT.seq ?_
    refine CodT.regionL [0, 1, 2] (by kernel_rfl) ?_
    refine OpsT.pures (r := [1, 2]) [0] [0, 3, 12] (S' := [(0, .slice A_a0 a0.length c_a0), (3, .bool y2), (12, .slice A_a0 a0.length c_a0)]) (by kernel_rfl) ?_
    obtain ⟨y5, hc4, h0⟩ := bindS h0
    try dsimp only at h0
    refine OpsT.cons (Does.call (d := some 13) (n := 25) (vs := [.slice A_a0 a0.length c_a0]) (by kernel_rfl) en25 (c25 w0 w _ _ hI A_a0 c_a0 a0 hr_a0 _ hc4) ?_)
    rintro e w ⟨rfl, hI⟩
    refine ⟨_, rfl, ?_⟩
    refine OpsT.pures (r := []) [2] [0, 3, 4] (S' := [(0, .slice A_a0 a0.length c_a0), (3, .bool y2), (4, .bool y5)]) (by kernel_rfl) ?_
    refine OpsT.done ?_
    refine Qn.then ?_
    refine CodT.seq ?_
    refine CodT.seq ?_
    refine CodT.regionL [0, 1] (by kernel_rfl) ?_
    refine OpsT.pures (r := []) [0, 1] [0, 3, 15] (S' := [(0, .slice A_a0 a0.length c_a0), (3, .bool y2), (15, .bool (!y5))]) (by kernel_rfl) ?_
    refine OpsT.done ?_
    refine Qn.then ?_
    by_cases hb6 : (!y5) = true
    · rw [if_pos hb6] at h0
      refine CodT.yes' (b := !y5) (by kernel_rfl) hb6 ?_
      refine CodT.seq ?_
      refine CodT.regionL [0, 1] (by kernel_rfl) ?_
      refine OpsT.pures (r := []) [0, 1] [2] (S' := [(2, .bool y2)]) (by kernel_rfl) ?_
      refine OpsT.done ?_
      refine Qn.then ?_
      refine CodT.ret ?_
      refine Qn.ret_then ?_
      have e := someS h0
      subst e
      refine Qn.keep [2] (S' := [(2, .bool y2)]) (by kernel_rfl) ?_
      exact post_ret (v := .bool y2) (fun a ha => RunRes.run (vs := [.bool y2]) (.tmp (t := 2) (by kernel_rfl) .nil) ha (by kernel_rfl)) ⟨rfl, hI⟩
    · rw [if_neg hb6] at h0
      refine CodT.no' (b := !y5) (by kernel_rfl) (by simpa using hb6) ?_
      refine CodT.skip ?_
      refine Qn.then ?_
      refine CodT.seq ?_
      refine CodT.regionL [0, 1, 2] (by kernel_rfl) ?_
      refine OpsT.pures (r := [1, 2]) [0] [0, 3, 17] (S' := [(0, .slice A_a0 a0.length c_a0), (3, .bool y2), (17, .slice A_a0 a0.length c_a0)]) (by kernel_rfl) ?_
      obtain ⟨y8, hc7, h0⟩ := bindS h0
      try dsimp only at h0
      refine OpsT.cons (Does.call (d := some 18) (n := 30) (vs := [.slice A_a0 a0.length c_a0]) (by kernel_rfl) en30 (c30 w0 w _ _ hI A_a0 c_a0 a0 hr_a0 _ hc7) ?_)
      rintro e w ⟨rfl, hI⟩
      refine ⟨_, rfl, ?_⟩
      refine OpsT.pures (r := []) [2] [0, 3, 5] (S' := [(0, .slice A_a0 a0.length c_a0), (3, .bool y2), (5, .int .i64 y8)]) (by kernel_rfl) ?_
      refine OpsT.done ?_
      refine Qn.then ?_
      refine CodT.seq ?_
      refine CodT.regionL [0] (by kernel_rfl) ?_
      refine OpsT.pures (r := []) [0] [0, 3, 5, 6] (S' := [(0, .slice A_a0 a0.length c_a0), (3, .bool y2), (5, .int .i64 y8), (6, .int .i64 0)]) (by kernel_rfl) ?_
      refine OpsT.done ?_
      refine Qn.then ?_
      refine CodT.seq ?_
      refine CodT.seq ?_
      refine CodT.regionL [0] (by kernel_rfl) ?_
      refine OpsT.pures (r := []) [0] [0, 3, 5, 6, 7] (S' := [(0, .slice A_a0 a0.length c_a0), (3, .bool y2), (5, .int .i64 y8), (6, .int .i64 0), (7, .int .i64 0)]) (by kernel_rfl) ?_
      refine OpsT.done ?_
      refine Qn.then ?_
      obtain ⟨r1, h1, h0⟩ := bindS h0
      refine CodT.meet1 (fun a w => ∃ (x9 : Int), .inr x9 = r1 ∧ Fr 79 [(0, .slice A_a0 a0.length c_a0), (3, .bool y2), (5, .int .i64 y8), (6, .int .i64 x9)] a ∧ Inv w0 Z w A) ?_ ?_
      ·
        refine CodT.block ?_
        refine (fun a ha => wp_loopN (fun k a w => ∃ (x10 : Int) (x11 : Int), law17_PoolPicks.l0 a0 y8 k x10 x11 = some r1 ∧ Fr 79 [(0, .slice A_a0 a0.length c_a0), (3, .bool y2), (5, .int .i64 y8), (6, .int .i64 x10), (7, .int .i64 x11)] a ∧ Inv w0 Z w A) ?_ FU a w ⟨0, 0, h1, ha.keep [0, 3, 5, 6, 7] (by kernel_rfl), hI⟩)
        clear h1 hI
        rintro k a w ⟨x10, x11, h1, ha, hI⟩
        rcases k with _ | k
        · cases h1
        simp only [law17_PoolPicks.l0] at h1
        refine CodT.of ?_ ha
        refine CodT.seq ?_
        refine CodT.seq ?_
        refine CodT.regionL [0, 1, 2, 3] (by kernel_rfl) ?_
        refine OpsT.pures (r := []) [0, 1, 2, 3] [0, 3, 5, 6, 7, 22] (S' := [(0, .slice A_a0 a0.length c_a0), (3, .bool y2), (5, .int .i64 y8), (6, .int .i64 x10), (7, .int .i64 x11), (22, .bool (decide (x11 < (a0.length : Int))))]) (by kernel_rfl) ?_
        refine OpsT.done ?_
        refine Qn.then ?_
        by_cases hb12 : (decide (x11 < (a0.length : Int))) = true
        · rw [if_pos hb12] at h1
          refine CodT.yes' (b := decide (x11 < (a0.length : Int))) (by kernel_rfl) hb12 ?_
          refine CodT.skip ?_
          refine Qn.then ?_
          obtain ⟨r2, h2, h1⟩ := bindS h1
          refine CodT.meet (fun a w => ∃ (x13 : Int), .inr x13 = r2 ∧ Fr 79 [(0, .slice A_a0 a0.length c_a0), (3, .bool y2), (5, .int .i64 y8), (6, .int .i64 x13), (7, .int .i64 x11)] a ∧ Inv w0 Z w A) ?_ ?_
          ·
            refine CodT.block ?_
            refine CodT.seq ?_
            refine CodT.regionL [0, 1, 2, 3, 4, 5] (by kernel_rfl) ?_
            refine OpsT.pures (r := [2, 3, 4, 5]) [0, 1] [0, 3, 5, 6, 7, 25, 26] (S' := [(0, .slice A_a0 a0.length c_a0), (3, .bool y2), (5, .int .i64 y8), (6, .int .i64 x10), (7, .int .i64 x11), (25, .slice A_a0 a0.length c_a0), (26, .int .i64 x11)]) (by kernel_rfl) ?_
            obtain ⟨hg14, h2⟩ := guardS h2
            obtain ⟨g15, o19, hA16, hr17, hl18⟩ := RdS.get hr_a0 hg14.1 hg14.2
            refine OpsT.cons (Does.yi (Yl.indexSlice (d := 27) (T := 35) (cc := c_a0) (k := .i64) (j := x11) (g := g15) (o := o19) (by kernel_rfl) Go.Proofs.Try.underlying35 ty49 hA16 hg14.1 hg14.2) hI ?_)
            refine OpsT.cons (Does.yi (Yl.load (d := 28) (T := 49) (v := .agg (c_PoolUse (gt a0 x11)).toArray) (by kernel_rfl) (ldRN ty49 (cs := c_PoolUse (gt a0 x11)) 0 (fun w hC => hr17 w0 w _ hC) hl18 (whole _ _ hl18))) hI ?_)
            refine OpsT.cons (Does.allocL (d := 8) (T := 49) (c_PoolUse (PoolUse.mk 0 0 0 false false)) (by kernel_rfl) ty49 hI (by kernel_rfl) ?_)
            intro b20 w hI
            refine OpsT.cons (Does.storeLit (T := 49) (b := b20) (o := 0) (v := .agg (c_PoolUse (gt a0 x11)).toArray) (l := c_PoolUse (PoolUse.mk 0 0 0 false false)) (vs := c_PoolUse (gt a0 x11)) (L' := c_PoolUse (gt a0 x11)) (by kernel_rfl) ty49 hI (by kernel_rfl) (by kernel_rfl) (by kernel_rfl) (by kernel_rfl) (by kernel_rfl) ?_)
            intro w hI
            refine OpsT.done ?_
            refine Qn.then ?_
            refine CodT.seq ?_
            obtain ⟨r3, h3, h2⟩ := bindS h2
            refine CodT.meet (fun a w => ∃ (x21 : Bool), x21 = r3 ∧ Fr 79 [(0, .slice A_a0 a0.length c_a0), (3, .bool y2), (5, .int .i64 y8), (6, .int .i64 x10), (7, .int .i64 x11), (8, .pointer (some ⟨b20, 0, none⟩)), (39, .bool x21)] a ∧ Inv w0 Z w (star (pt b20 (.cells (c_PoolUse (gt a0 x11)).toArray 49 (0, 0))) A)) ?_ ?_
            ·
              refine CodT.regionL [0, 1, 2, 3, 4, 5, 6, 7, 8, 9, 10] (by kernel_rfl) ?_
              refine OpsT.pures (r := [1, 2, 3, 4, 5, 6, 7, 8, 9, 10]) [0] [0, 3, 5, 6, 7, 8, 29] (S' := [(0, .slice A_a0 a0.length c_a0), (3, .bool y2), (5, .int .i64 y8), (6, .int .i64 x10), (7, .int .i64 x11), (8, .pointer (some ⟨b20, 0, none⟩)), (29, .pointer (some ⟨b20, 3, none⟩))]) (by kernel_rfl) ?_
              refine OpsT.cons (Does.yi (Yl.load (d := 30) (T := 4) (v := .bool ((gt a0 x11).Bad)) (by kernel_rfl) (ldB ty4 (l := c_PoolUse (gt a0 x11)) (o := 3) (v := .bool ((gt a0 x11).Bad)) (ent_refl _) (by kernel_rfl))) hI ?_)
              refine OpsT.pures (r := [3, 4, 5, 6, 7, 8, 9, 10]) [2] [0, 3, 5, 6, 7, 8, 31] (S' := [(0, .slice A_a0 a0.length c_a0), (3, .bool y2), (5, .int .i64 y8), (6, .int .i64 x10), (7, .int .i64 x11), (8, .pointer (some ⟨b20, 0, none⟩)), (31, .bool ((gt a0 x11).Bad))]) (by kernel_rfl) ?_
              by_cases hb22 : ((gt a0 x11).Bad) = true
              · rw [if_pos hb22] at h3
                refine OpsT.keep [0, 3, 5, 6, 7, 8, 31] (S' := [(0, .slice A_a0 a0.length c_a0), (3, .bool y2), (5, .int .i64 y8), (6, .int .i64 x10), (7, .int .i64 x11), (8, .pointer (some ⟨b20, 0, none⟩)), (31, .bool true)]) (by simp only [hb22]; kernel_rfl) ?_
                refine OpsT.pures (r := []) [3, 4, 5, 6, 7, 8, 9, 10] [0, 3, 5, 6, 7, 8, 39] (S' := [(0, .slice A_a0 a0.length c_a0), (3, .bool y2), (5, .int .i64 y8), (6, .int .i64 x10), (7, .int .i64 x11), (8, .pointer (some ⟨b20, 0, none⟩)), (39, .bool true)]) (by kernel_rfl) ?_
                refine OpsT.done ?_
                have e := someS h3
                subst e
                exact Qn.thenJ fun a ha => ⟨true, rfl, ha.keep [0, 3, 5, 6, 7, 8, 39] (by kernel_rfl), hI⟩
              · rw [if_neg hb22] at h3
                have hb22 : ((gt a0 x11).Bad) = false := by simpa using hb22
                refine OpsT.keep [0, 3, 5, 6, 7, 8, 31] (S' := [(0, .slice A_a0 a0.length c_a0), (3, .bool y2), (5, .int .i64 y8), (6, .int .i64 x10), (7, .int .i64 x11), (8, .pointer (some ⟨b20, 0, none⟩)), (31, .bool false)]) (by simp only [hb22]; kernel_rfl) ?_
                refine OpsT.pures (r := [4, 5, 6, 7, 8, 9, 10]) [3] [0, 3, 5, 6, 7, 8, 31, 32] (S' := [(0, .slice A_a0 a0.length c_a0), (3, .bool y2), (5, .int .i64 y8), (6, .int .i64 x10), (7, .int .i64 x11), (8, .pointer (some ⟨b20, 0, none⟩)), (31, .bool false), (32, .pointer (some ⟨b20, 4, none⟩))]) (by kernel_rfl) ?_
                refine OpsT.cons (Does.yi (Yl.load (d := 33) (T := 4) (v := .bool ((gt a0 x11).Keep)) (by kernel_rfl) (ldB ty4 (l := c_PoolUse (gt a0 x11)) (o := 4) (v := .bool ((gt a0 x11).Keep)) (ent_refl _) (by kernel_rfl))) hI ?_)
                refine OpsT.pures (r := [7, 8, 9, 10]) [5, 6] [0, 3, 5, 6, 7, 8, 35] (S' := [(0, .slice A_a0 a0.length c_a0), (3, .bool y2), (5, .int .i64 y8), (6, .int .i64 x10), (7, .int .i64 x11), (8, .pointer (some ⟨b20, 0, none⟩)), (35, .bool ((gt a0 x11).Keep))]) (by kernel_rfl) ?_
                by_cases hb23 : ((gt a0 x11).Keep) = true
                · rw [if_pos hb23] at h3
                  refine OpsT.keep [0, 3, 5, 6, 7, 8, 35] (S' := [(0, .slice A_a0 a0.length c_a0), (3, .bool y2), (5, .int .i64 y8), (6, .int .i64 x10), (7, .int .i64 x11), (8, .pointer (some ⟨b20, 0, none⟩)), (35, .bool true)]) (by simp only [hb23]; kernel_rfl) ?_
                  refine OpsT.pures (r := []) [7, 8, 9, 10] [0, 3, 5, 6, 7, 8, 39] (S' := [(0, .slice A_a0 a0.length c_a0), (3, .bool y2), (5, .int .i64 y8), (6, .int .i64 x10), (7, .int .i64 x11), (8, .pointer (some ⟨b20, 0, none⟩)), (39, .bool true)]) (by kernel_rfl) ?_
                  refine OpsT.done ?_
                  have e := someS h3
                  subst e
                  exact Qn.thenJ fun a ha => ⟨true, rfl, ha.keep [0, 3, 5, 6, 7, 8, 39] (by kernel_rfl), hI⟩
                · rw [if_neg hb23] at h3
                  have hb23 : ((gt a0 x11).Keep) = false := by simpa using hb23
                  refine OpsT.keep [0, 3, 5, 6, 7, 8, 35] (S' := [(0, .slice A_a0 a0.length c_a0), (3, .bool y2), (5, .int .i64 y8), (6, .int .i64 x10), (7, .int .i64 x11), (8, .pointer (some ⟨b20, 0, none⟩)), (35, .bool false)]) (by simp only [hb23]; kernel_rfl) ?_
                  refine OpsT.pures (r := [8, 9, 10]) [7] [0, 3, 5, 6, 7, 8, 35, 36] (S' := [(0, .slice A_a0 a0.length c_a0), (3, .bool y2), (5, .int .i64 y8), (6, .int .i64 x10), (7, .int .i64 x11), (8, .pointer (some ⟨b20, 0, none⟩)), (35, .bool false), (36, .pointer (some ⟨b20, 1, none⟩))]) (by kernel_rfl) ?_
                  refine OpsT.cons (Does.yi (Yl.load (d := 37) (T := 3) (v := .int .i64 ((gt a0 x11).Live)) (by kernel_rfl) (ldB ty3 (l := c_PoolUse (gt a0 x11)) (o := 1) (v := .int .i64 ((gt a0 x11).Live)) (ent_refl _) (by kernel_rfl))) hI ?_)
                  refine OpsT.pures (r := []) [9, 10] [0, 3, 5, 6, 7, 8, 39] (S' := [(0, .slice A_a0 a0.length c_a0), (3, .bool y2), (5, .int .i64 y8), (6, .int .i64 x10), (7, .int .i64 x11), (8, .pointer (some ⟨b20, 0, none⟩)), (39, .bool (decide (((gt a0 x11).Live) > 0)))]) (by kernel_rfl) ?_
                  refine OpsT.done ?_
                  have e := someS h3
                  subst e
                  exact Qn.thenJ fun a ha => ⟨decide (((gt a0 x11).Live) > 0), rfl, ha.keep [0, 3, 5, 6, 7, 8, 39] (by kernel_rfl), hI⟩
            ·
              rintro a w ⟨x21, rfl, ha, hI⟩
              try dsimp only at h2
              refine CodT.of ?_ ha
              by_cases hb24 : x21 = true
              · rw [if_pos hb24] at h2
                refine CodT.yes' (b := x21) (by kernel_rfl) hb24 ?_
                refine CodT.seq ?_
                refine CodT.seq ?_
                refine CodT.regionL [0, 1, 2] (by kernel_rfl) ?_
                refine OpsT.pures (r := []) [0, 1, 2] [0, 3, 5, 6, 7, 42] (S' := [(0, .slice A_a0 a0.length c_a0), (3, .bool y2), (5, .int .i64 y8), (6, .int .i64 x10), (7, .int .i64 x11), (42, .bool (x11 == y8))]) (by kernel_rfl) ?_
                refine OpsT.done ?_
                refine Qn.then ?_
                by_cases hb25 : (x11 == y8) = true
                · rw [if_pos hb25] at h2
                  refine CodT.yes' (b := x11 == y8) (by kernel_rfl) hb25 ?_
                  refine CodT.seq ?_
                  refine CodT.regionL [0] (by kernel_rfl) ?_
                  refine OpsT.pures (r := []) [0] [2] (S' := [(2, .bool false)]) (by kernel_rfl) ?_
                  refine OpsT.done ?_
                  refine Qn.then ?_
                  refine CodT.ret ?_
                  refine Qn.ret_then ?_
                  refine Qn.ret_then ?_
                  refine Qn.block_ret ?_
                  refine Qn.ret_then ?_
                  refine Qn.ret_then ?_
                  refine Qn.block_ret ?_
                  refine Qn.ret_then ?_
                  refine Qn.ret_then ?_
                  have hI := hI.drop
                  have e := someS h2
                  subst e
                  try dsimp only at h1
                  have e := someS h1
                  subst e
                  try dsimp only at h0
                  have e := someS h0
                  subst e
                  refine Qn.keep [2] (S' := [(2, .bool false)]) (by kernel_rfl) ?_
                  exact post_ret (v := .bool false) (fun a ha => RunRes.run (vs := [.bool false]) (.tmp (t := 2) (by kernel_rfl) .nil) ha (by kernel_rfl)) ⟨rfl, hI⟩
                · rw [if_neg hb25] at h2
                  refine CodT.no' (b := x11 == y8) (by kernel_rfl) (by simpa using hb25) ?_
                  refine CodT.skip ?_
                  refine Qn.then ?_
                  refine CodT.exit ?_
                  refine Qn.exit_then ?_
                  refine Qn.block ?_
                  have hI := hI.drop
                  have e := someS h2
                  subst e
                  exact Qn.thenJ fun a ha => ⟨x10, rfl, ha.keep [0, 3, 5, 6, 7] (by kernel_rfl), hI⟩
              · rw [if_neg hb24] at h2
                refine CodT.no' (b := x21) (by kernel_rfl) (by simpa using hb24) ?_
                refine CodT.skip ?_
                refine Qn.then ?_
                refine CodT.seq ?_
                refine CodT.regionL [0, 1, 2] (by kernel_rfl) ?_
                refine OpsT.pures (r := []) [0, 1, 2] [0, 3, 5, 6, 7, 8] (S' := [(0, .slice A_a0 a0.length c_a0), (3, .bool y2), (5, .int .i64 y8), (6, .int .i64 (wi64 (x10 + 1))), (7, .int .i64 x11), (8, .pointer (some ⟨b20, 0, none⟩))]) (by kernel_rfl) ?_
                refine OpsT.done ?_
                refine Qn.then ?_
                obtain ⟨r3, h3, h2⟩ := bindS h2
                refine CodT.meet (fun a w => ∃ (x26 : Bool), x26 = r3 ∧ Fr 79 [(0, .slice A_a0 a0.length c_a0), (3, .bool y2), (5, .int .i64 y8), (6, .int .i64 (wi64 (x10 + 1))), (7, .int .i64 x11), (56, .bool x26)] a ∧ Inv w0 Z w A) ?_ ?_
                ·
                  refine CodT.drawI (n := 12) [] (by kernel_rfl) (by kernel_rfl) hI ?_
                  intro w hI
                  refine GmT.p' 0 45 (.int .i64 y8) (by kernel_rfl) (by kernel_rfl) ?_
                  refine GmT.p' 1 46 (.bool (decide (y8 < 0))) (by kernel_rfl) (by kernel_rfl) ?_
                  refine GmT.p' 2 47 (.bool (decide (y8 < 0))) (by kernel_rfl) (by kernel_rfl) ?_
                  by_cases hb27 : (decide (y8 < 0)) = true
                  · rw [if_pos hb27] at h3
                    refine GmT.keep [0, 3, 5, 6, 7, 8, 47] (S' := [(0, .slice A_a0 a0.length c_a0), (3, .bool y2), (5, .int .i64 y8), (6, .int .i64 (wi64 (x10 + 1))), (7, .int .i64 x11), (8, .pointer (some ⟨b20, 0, none⟩)), (47, .bool true)]) (by simp only [hb27]; kernel_rfl) ?_
                    refine GmT.p' 3 48 (undef) (by kernel_rfl) (by kernel_rfl) ?_
                    refine GmT.p' 4 49 (undef) (by kernel_rfl) (by kernel_rfl) ?_
                    refine GmT.p' 5 50 (undef) (by kernel_rfl) (by kernel_rfl) ?_
                    refine GmT.p' 6 51 (undef) (by kernel_rfl) (by kernel_rfl) ?_
                    refine GmT.p' 7 52 (undef) (by kernel_rfl) (by kernel_rfl) ?_
                    refine GmT.p' 8 53 (undef) (by kernel_rfl) (by kernel_rfl) ?_
                    refine GmT.p' 9 54 (undef) (by kernel_rfl) (by kernel_rfl) ?_
                    refine GmT.p' 10 55 (undef) (by kernel_rfl) (by kernel_rfl) ?_
                    refine GmT.p' 11 56 (.bool true) (by kernel_rfl) (by kernel_rfl) ?_
                    refine GmT.done (by kernel_rfl) ?_
                    have hI := hI.drop
                    have e := someS h3
                    subst e
                    exact Qn.thenJ fun a ha => ⟨true, rfl, ha.keep [0, 3, 5, 6, 7, 56] (by kernel_rfl), hI⟩
                  · rw [if_neg hb27] at h3
                    have hb27 : (decide (y8 < 0)) = false := by simpa using hb27
                    refine GmT.keep [0, 3, 5, 6, 7, 8, 47] (S' := [(0, .slice A_a0 a0.length c_a0), (3, .bool y2), (5, .int .i64 y8), (6, .int .i64 (wi64 (x10 + 1))), (7, .int .i64 x11), (8, .pointer (some ⟨b20, 0, none⟩)), (47, .bool false)]) (by simp only [hb27]; kernel_rfl) ?_
                    refine GmT.p' 3 48 (.pointer (some ⟨b20, 2, none⟩)) (by kernel_rfl) (by kernel_rfl) ?_
                    refine GmT.p' 5 50 (.slice A_a0 a0.length c_a0) (by kernel_rfl) (by kernel_rfl) ?_
                    refine GmT.p' 6 51 (.int .i64 y8) (by kernel_rfl) (by kernel_rfl) ?_
                    refine GmT.r (i := 4) 2 (by kernel_rfl) (by kernel_rfl) (Yl.load (d := 49) (T := 3) (v := .int .i64 ((gt a0 x11).Worn)) (by kernel_rfl) (ldB ty3 (l := c_PoolUse (gt a0 x11)) (o := 2) (v := .int .i64 ((gt a0 x11).Worn)) (ent_refl _) (by kernel_rfl))) hI ?_
                    obtain ⟨hg28, h3⟩ := guardS h3
                    obtain ⟨g29, o33, hA30, hr31, hl32⟩ := RdS.get hr_a0 hg28.1 hg28.2
                    refine GmT.r (i := 7) 2 (by kernel_rfl) (by kernel_rfl) (Yl.indexSlice (d := 52) (T := 35) (cc := c_a0) (k := .i64) (j := y8) (g := g29) (o := o33) (by kernel_rfl) Go.Proofs.Try.underlying35 ty49 hA30 hg28.1 hg28.2) hI ?_
                    refine GmT.p' 8 53 (.pointer (some ⟨g29, o33 + y8.toNat * 5 + 2, none⟩)) (by kernel_rfl) (by kernel_rfl) ?_
                    refine GmT.r (i := 9) 2 (by kernel_rfl) (by kernel_rfl) (Yl.load (d := 54) (T := 3) (v := .int .i64 ((gt a0 y8).Worn)) (by kernel_rfl) (ldR ty3 (v := .int .i64 ((gt a0 y8).Worn)) 2 (fun w hC => hr31 w0 w _ hC) (by kernel_rfl))) hI ?_
                    refine GmT.p' 10 55 (.bool (decide (((gt a0 x11).Worn) < ((gt a0 y8).Worn)))) (by kernel_rfl) (by kernel_rfl) ?_
                    refine GmT.p' 11 56 (.bool (decide (((gt a0 x11).Worn) < ((gt a0 y8).Worn)))) (by kernel_rfl) (by kernel_rfl) ?_
                    refine GmT.done (by kernel_rfl) ?_
                    have hI := hI.drop
                    have e := someS h3
                    subst e
                    exact Qn.thenJ fun a ha => ⟨decide (((gt a0 x11).Worn) < ((gt a0 y8).Worn)), rfl, ha.keep [0, 3, 5, 6, 7, 56] (by kernel_rfl), hI⟩
                ·
                  rintro a w ⟨x26, rfl, ha, hI⟩
                  try dsimp only at h2
                  refine CodT.of ?_ ha
                  by_cases hb34 : x26 = true
                  · rw [if_pos hb34] at h2
                    refine CodT.yes' (b := x26) (by kernel_rfl) hb34 ?_
                    refine CodT.seq ?_
                    refine CodT.regionL [0] (by kernel_rfl) ?_
                    refine OpsT.pures (r := []) [0] [2] (S' := [(2, .bool false)]) (by kernel_rfl) ?_
                    refine OpsT.done ?_
                    refine Qn.then ?_
                    refine CodT.ret ?_
                    refine Qn.block_ret ?_
                    refine Qn.ret_then ?_
                    refine Qn.ret_then ?_
                    refine Qn.block_ret ?_
                    refine Qn.ret_then ?_
                    refine Qn.ret_then ?_
                    have e := someS h2
                    subst e
                    try dsimp only at h1
                    have e := someS h1
                    subst e
                    try dsimp only at h0
                    have e := someS h0
                    subst e
                    refine Qn.keep [2] (S' := [(2, .bool false)]) (by kernel_rfl) ?_
                    exact post_ret (v := .bool false) (fun a ha => RunRes.run (vs := [.bool false]) (.tmp (t := 2) (by kernel_rfl) .nil) ha (by kernel_rfl)) ⟨rfl, hI⟩
                  · rw [if_neg hb34] at h2
                    refine CodT.no' (b := x26) (by kernel_rfl) (by simpa using hb34) ?_
                    refine CodT.skip ?_
                    refine Qn.block_normal ?_
                    have e := someS h2
                    subst e
                    exact Qn.thenJ fun a ha => ⟨wi64 (x10 + 1), rfl, ha.keep [0, 3, 5, 6, 7] (by kernel_rfl), hI⟩
          ·
            rintro a w ⟨x13, rfl, ha, hI⟩
            try dsimp only at h1
            refine CodT.of ?_ ha
            refine CodT.regionL [0, 1, 2] (by kernel_rfl) ?_
            refine OpsT.pures (r := []) [0, 1, 2] [0, 3, 5, 6, 7] (S' := [(0, .slice A_a0 a0.length c_a0), (3, .bool y2), (5, .int .i64 y8), (6, .int .i64 x13), (7, .int .i64 (wi64 (x11 + 1)))]) (by kernel_rfl) ?_
            refine OpsT.done ?_
            exact Qn.thenJ fun a ha => ⟨k, Nat.lt_succ_self k, x13, wi64 (x11 + 1), h1, ha.keep [0, 3, 5, 6, 7] (by kernel_rfl), hI⟩
        · rw [if_neg hb12] at h1
          refine CodT.no' (b := decide (x11 < (a0.length : Int))) (by kernel_rfl) (by simpa using hb12) ?_
          refine CodT.exit ?_
          refine Qn.exit_then ?_
          refine Qn.exit_then ?_
          refine Qn.block ?_
          have e := someS h1
          subst e
          exact Qn.thenJ fun a ha => ⟨x10, rfl, ha.keep [0, 3, 5, 6] (by kernel_rfl), hI⟩
      ·
        rintro a w ⟨x9, rfl, ha, hI⟩
        try dsimp only at h0
        refine Qn.of ?_ ha
        refine Qn.then ?_
        obtain ⟨r1, h1, h0⟩ := bindS h0
        refine CodT.meet (fun a w => ∃ (x35 : Bool), x35 = r1 ∧ Fr 79 [(2, .bool x35)] a ∧ Inv w0 Z w A) ?_ ?_
        ·
          refine CodT.regionL [0, 1, 2, 3, 4, 5, 6, 7, 8, 9, 10, 11, 12, 13, 14, 15, 16, 17, 18, 19, 20, 21, 22] (by kernel_rfl) ?_
          refine OpsT.pures (r := [2, 3, 4, 5, 6, 7, 8, 9, 10, 11, 12, 13, 14, 15, 16, 17, 18, 19, 20, 21, 22]) [0, 1] [0, 5, 6, 58] (S' := [(0, .slice A_a0 a0.length c_a0), (5, .int .i64 y8), (6, .int .i64 x9), (58, .bool y2)]) (by kernel_rfl) ?_
          by_cases hb36 : y2 = true
          · rw [if_pos hb36] at h1
            refine OpsT.keep [0, 5, 6, 58] (S' := [(0, .slice A_a0 a0.length c_a0), (5, .int .i64 y8), (6, .int .i64 x9), (58, .bool true)]) (by simp only [hb36]; kernel_rfl) ?_
            refine OpsT.pures (r := [9, 10, 11, 12, 13, 14, 15, 16, 17, 18, 19, 20, 21, 22]) [2, 3, 4, 5, 6, 7, 8] [0, 6, 65] (S' := [(0, .slice A_a0 a0.length c_a0), (6, .int .i64 x9), (65, .bool ((decide (y8 ≥ 0)) == (decide (x9 > 0))))]) (by kernel_rfl) ?_
            by_cases hb37 : ((decide (y8 ≥ 0)) == (decide (x9 > 0))) = true
            · rw [if_pos hb37] at h1
              refine OpsT.keep [0, 6, 65] (S' := [(0, .slice A_a0 a0.length c_a0), (6, .int .i64 x9), (65, .bool true)]) (by simp only [hb37]; kernel_rfl) ?_
              refine OpsT.pures (r := [10, 11, 12, 13, 14, 15, 16, 17, 18, 19, 20, 21, 22]) [9] [0, 6, 65, 66] (S' := [(0, .slice A_a0 a0.length c_a0), (6, .int .i64 x9), (65, .bool true), (66, .slice A_a0 a0.length c_a0)]) (by kernel_rfl) ?_
              obtain ⟨y39, hc38, h1⟩ := bindS h1
              try dsimp only at h1
              refine OpsT.cons (Does.call (d := some 67) (n := 28) (vs := [.slice A_a0 a0.length c_a0]) (by kernel_rfl) en28 (c28 w0 w _ _ hI A_a0 c_a0 a0 hr_a0 _ hc38) ?_)
              rintro e w ⟨A40, cp41, rfl, hI⟩
              refine ⟨_, rfl, ?_⟩
              refine OpsT.pures (r := [16, 17, 18, 19, 20, 21, 22]) [11, 12, 13, 14, 15] [0, 6, 72] (S' := [(0, .slice A_a0 a0.length c_a0), (6, .int .i64 x9), (72, .bool ((y39.length : Int) == x9))]) (by kernel_rfl) ?_
              by_cases hb42 : ((y39.length : Int) == x9) = true
              · rw [if_pos hb42] at h1
                refine OpsT.keep [0, 6, 72] (S' := [(0, .slice A_a0 a0.length c_a0), (6, .int .i64 x9), (72, .bool true)]) (by simp only [hb42]; kernel_rfl) ?_
                refine OpsT.pures (r := [17, 18, 19, 20, 21, 22]) [16] [6, 72, 73] (S' := [(6, .int .i64 x9), (72, .bool true), (73, .slice A_a0 a0.length c_a0)]) (by kernel_rfl) ?_
                obtain ⟨y44, hc43, h1⟩ := bindS h1
                try dsimp only at h1
                refine OpsT.cons (Does.call (d := some 74) (n := 34) (vs := [.slice A_a0 a0.length c_a0, .int .i64 3]) (by kernel_rfl) en34 (c34 w0 w _ _ hI A_a0 c_a0 a0 hr_a0 3 _ hc43) ?_)
                rintro e w ⟨rfl, hI⟩
                refine ⟨_, rfl, ?_⟩
                refine OpsT.pures (r := []) [18, 19, 20, 21, 22] [2] (S' := [(2, .bool (y44 == (wi64 (3 * x9))))]) (by kernel_rfl) ?_
                refine OpsT.done ?_
                have hI := hI.drop
                have e := someS h1
                subst e
                exact Qn.thenJ fun a ha => ⟨y44 == (wi64 (3 * x9)), rfl, ha.keep [2] (by kernel_rfl), hI⟩
              · rw [if_neg hb42] at h1
                have hb42 : ((y39.length : Int) == x9) = false := by simpa using hb42
                refine OpsT.keep [0, 6, 72] (S' := [(0, .slice A_a0 a0.length c_a0), (6, .int .i64 x9), (72, .bool false)]) (by simp only [hb42]; kernel_rfl) ?_
                refine OpsT.pures (r := []) [16, 17, 18, 19, 20, 21, 22] [2] (S' := [(2, .bool false)]) (by kernel_rfl) ?_
                refine OpsT.done ?_
                have hI := hI.drop
                have e := someS h1
                subst e
                exact Qn.thenJ fun a ha => ⟨false, rfl, ha.keep [2] (by kernel_rfl), hI⟩
            · rw [if_neg hb37] at h1
              have hb37 : ((decide (y8 ≥ 0)) == (decide (x9 > 0))) = false := by simpa using hb37
              refine OpsT.keep [0, 6, 65] (S' := [(0, .slice A_a0 a0.length c_a0), (6, .int .i64 x9), (65, .bool false)]) (by simp only [hb37]; kernel_rfl) ?_
              refine OpsT.pures (r := []) [9, 10, 11, 12, 13, 14, 15, 16, 17, 18, 19, 20, 21, 22] [2] (S' := [(2, .bool false)]) (by kernel_rfl) ?_
              refine OpsT.done ?_
              have e := someS h1
              subst e
              exact Qn.thenJ fun a ha => ⟨false, rfl, ha.keep [2] (by kernel_rfl), hI⟩
          · rw [if_neg hb36] at h1
            have hb36 : y2 = false := by simpa using hb36
            refine OpsT.keep [0, 5, 6, 58] (S' := [(0, .slice A_a0 a0.length c_a0), (5, .int .i64 y8), (6, .int .i64 x9), (58, .bool false)]) (by simp only [hb36]; kernel_rfl) ?_
            refine OpsT.pures (r := []) [2, 3, 4, 5, 6, 7, 8, 9, 10, 11, 12, 13, 14, 15, 16, 17, 18, 19, 20, 21, 22] [2] (S' := [(2, .bool false)]) (by kernel_rfl) ?_
            refine OpsT.done ?_
            have e := someS h1
            subst e
            exact Qn.thenJ fun a ha => ⟨false, rfl, ha.keep [2] (by kernel_rfl), hI⟩
        ·
          rintro a w ⟨x35, rfl, ha, hI⟩
          try dsimp only at h0
          refine CodT.of ?_ ha
          refine CodT.ret ?_
          have e := someS h0
          subst e
          refine Qn.keep [2] (S' := [(2, .bool x35)]) (by kernel_rfl) ?_
          exact post_ret (v := .bool x35) (fun a ha => RunRes.run (vs := [.bool x35]) (.tmp (t := 2) (by kernel_rfl) .nil) ha (by kernel_rfl)) ⟨rfl, hI⟩
end Go.Cen
