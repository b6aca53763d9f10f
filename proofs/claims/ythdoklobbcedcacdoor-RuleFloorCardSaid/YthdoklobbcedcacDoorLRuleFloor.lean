/- The walk of the law RuleFloor, printed by a program of ours. -/
import Derived.Test.YthdoklobbcedcacDoorPx
import Derived.Test.YthdoklobbcedcacDoorWx1
set_option linter.unusedVariables false
set_option linter.unusedSimpArgs false
namespace Go.Cen
set_option maxRecDepth 100000 in
set_option maxHeartbeats 4000000 in
/-- cenotaph/cenotaphlaw07.RuleFloor -/
theorem c4 (w0 w : World) (Z : Hp) (A : HP) (hI : Inv w0 Z w A) (hT : Tabs Z) (a0 : Int) (A_a1 : Option Addr) (c_a1 : Nat) (a1 : (List Int)) (hr_a1 : RdS Z (cI .i64) 1 A_a1 c_a1 a1) (r : Bool) (h0 : law07_RuleFloor a0 a1 = some r) :
    Calls prog 4 #[.int .i64 a0, .slice A_a1 a1.length c_a1] w (fun e w' => e = .returned (.bool r) ∧ Inv w0 Z w' A) := by
  have e4 := calls_intro (R := (fun e w' => e = .returned (.bool r) ∧ Inv w0 Z w' A)) (w := w) (args := [.int .i64 a0, .slice A_a1 a1.length c_a1]) (fn := Go.Proofs.Tryd.f4) 78 Go.Proofs.Tryd.func4 (by rfl) Go.Proofs.Tryd.ntmps4 (by kernel_rfl)
  refine e4 ?_
  clear e4
  unfold law07_RuleFloor at h0
  refine CodT.seq ?_
  refine CodT.regionL [0] (by kernel_rfl) ?_
  refine OpsT.pures (r := []) [0] [0, 1] (S' := [(0, .int .i64 a0), (1, .slice A_a1 a1.length c_a1)]) (by kernel_rfl) ?_
  refine OpsT.done ?_
  refine Qn.then ?_
  refine CodT.seq ?_
  refine CodT.regionL [0, 1] (by kernel_rfl) ?_
  obtain ⟨y2, hc1, h0⟩ := bindS h0
  try dsimp only at h0
  refine OpsT.cons (Does.call (d := some 11) (n := 10) (vs := []) (by kernel_rfl) en10 (c10 w0 w _ _ hI hT _ hc1) ?_)
  rintro e w ⟨rfl, hI⟩
  refine ⟨_, rfl, ?_⟩
  refine OpsT.pures (r := []) [1] [0, 1, 5] (S' := [(0, .int .i64 a0), (1, .slice A_a1 a1.length c_a1), (5, .bool y2)]) (by kernel_rfl) ?_
  refine OpsT.done ?_
  refine Qn.then ?_
  refine CodT.seq ?_
  refine CodT.seq ?_
  refine CodT.regionL [0, 1] (by kernel_rfl) ?_
  refine OpsT.pures (r := []) [0, 1] [0, 1, 5, 13] (S' := [(0, .int .i64 a0), (1, .slice A_a1 a1.length c_a1), (5, .bool y2), (13, .bool (!y2))]) (by kernel_rfl) ?_
  refine OpsT.done ?_
  refine Qn.then ?_
  by_cases hb3 : (!y2) = true
  · rw [if_pos hb3] at h0
    refine CodT.yes' (b := !y2) (by kernel_rfl) hb3 ?_
    refine CodT.seq ?_
    refine CodT.regionL [0] (by kernel_rfl) ?_
    refine OpsT.pures (r := []) [0] [4] (S' := [(4, .bool false)]) (by kernel_rfl) ?_
    refine OpsT.done ?_
    refine Qn.then ?_
    refine CodT.ret ?_
    refine Qn.ret_then ?_
    have e := someS h0
    subst e
    refine Qn.keep [4] (S' := [(4, .bool false)]) (by kernel_rfl) ?_
    exact post_ret (v := .bool false) (fun a ha => RunRes.run (vs := [.bool false]) (.tmp (t := 4) (by kernel_rfl) .nil) ha (by kernel_rfl)) ⟨rfl, hI⟩
  · rw [if_neg hb3] at h0
    refine CodT.no' (b := !y2) (by kernel_rfl) (by simpa using hb3) ?_
    refine CodT.skip ?_
    refine Qn.then ?_
    refine CodT.seq ?_
    refine CodT.seq ?_
    refine CodT.regionL [0, 1, 2] (by kernel_rfl) ?_
    refine OpsT.pures (r := []) [0, 1, 2] [0, 1, 5, 16] (S' := [(0, .int .i64 a0), (1, .slice A_a1 a1.length c_a1), (5, .bool y2), (16, .bool (decide ((a1.length : Int) > 200)))]) (by kernel_rfl) ?_
    refine OpsT.done ?_
    refine Qn.then ?_
    by_cases hb4 : (decide ((a1.length : Int) > 200)) = true
    · rw [if_pos hb4] at h0
      refine CodT.yes' (b := decide ((a1.length : Int) > 200)) (by kernel_rfl) hb4 ?_
      refine CodT.seq ?_
      refine CodT.regionL [0, 1] (by kernel_rfl) ?_
      refine OpsT.pures (r := []) [0, 1] [4] (S' := [(4, .bool y2)]) (by kernel_rfl) ?_
      refine OpsT.done ?_
      refine Qn.then ?_
      refine CodT.ret ?_
      refine Qn.ret_then ?_
      have e := someS h0
      subst e
      refine Qn.keep [4] (S' := [(4, .bool y2)]) (by kernel_rfl) ?_
      exact post_ret (v := .bool y2) (fun a ha => RunRes.run (vs := [.bool y2]) (.tmp (t := 4) (by kernel_rfl) .nil) ha (by kernel_rfl)) ⟨rfl, hI⟩
    · rw [if_neg hb4] at h0
      refine CodT.no' (b := decide ((a1.length : Int) > 200)) (by kernel_rfl) (by simpa using hb4) ?_
      refine CodT.skip ?_
      refine Qn.then ?_
      refine CodT.seq ?_
      refine CodT.regionL [0, 1] (by kernel_rfl) ?_
      refine OpsT.pures (r := []) [0, 1] [0, 1, 5, 6] (S' := [(0, .int .i64 a0), (1, .slice A_a1 a1.length c_a1), (5, .bool y2), (6, .int .i64 a0)]) (by kernel_rfl) ?_
      refine OpsT.done ?_
      refine Qn.then ?_
      refine CodT.seq ?_
      refine CodT.seq ?_
      refine CodT.regionL [0] (by kernel_rfl) ?_
      refine OpsT.pures (r := []) [0] [0, 1, 5, 6, 7] (S' := [(0, .int .i64 a0), (1, .slice A_a1 a1.length c_a1), (5, .bool y2), (6, .int .i64 a0), (7, .int .i64 0)]) (by kernel_rfl) ?_
      refine OpsT.done ?_
      refine Qn.then ?_
      obtain ⟨r1, h1, h0⟩ := bindS h0
      refine CodT.meet1 (fun a w => ∃ (x5 : Int), .inr x5 = r1 ∧ Fr 78 [(0, .int .i64 a0), (1, .slice A_a1 a1.length c_a1), (5, .bool y2), (6, .int .i64 x5)] a ∧ Inv w0 Z w A) ?_ ?_
      ·
        refine CodT.block ?_
        refine (fun a ha => wp_loopN (fun k a w => ∃ (x6 : Int) (x7 : Int), law07_RuleFloor.l0 a1 a0 k x6 x7 = some r1 ∧ Fr 78 [(0, .int .i64 a0), (1, .slice A_a1 a1.length c_a1), (5, .bool y2), (6, .int .i64 x6), (7, .int .i64 x7)] a ∧ Inv w0 Z w A) ?_ FU a w ⟨a0, 0, h1, ha.keep [0, 1, 5, 6, 7] (by kernel_rfl), hI⟩)
        clear h1 hI
        rintro k a w ⟨x6, x7, h1, ha, hI⟩
        rcases k with _ | k
        · cases h1
        simp only [law07_RuleFloor.l0] at h1
        refine CodT.of ?_ ha
        refine CodT.seq ?_
        refine CodT.seq ?_
        refine CodT.regionL [0, 1, 2, 3] (by kernel_rfl) ?_
        refine OpsT.pures (r := []) [0, 1, 2, 3] [0, 1, 5, 6, 7, 22] (S' := [(0, .int .i64 a0), (1, .slice A_a1 a1.length c_a1), (5, .bool y2), (6, .int .i64 x6), (7, .int .i64 x7), (22, .bool (decide (x7 < (a1.length : Int))))]) (by kernel_rfl) ?_
        refine OpsT.done ?_
        refine Qn.then ?_
        by_cases hb8 : (decide (x7 < (a1.length : Int))) = true
        · rw [if_pos hb8] at h1
          refine CodT.yes' (b := decide (x7 < (a1.length : Int))) (by kernel_rfl) hb8 ?_
          refine CodT.skip ?_
          refine Qn.then ?_
          refine CodT.seq ?_
          refine CodT.block ?_
          refine CodT.seq ?_
          refine CodT.regionL [0, 1, 2, 3, 4, 5, 6] (by kernel_rfl) ?_
          refine OpsT.pures (r := [3, 4, 5, 6]) [0, 1, 2] [0, 1, 5, 6, 7, 25, 26, 27] (S' := [(0, .int .i64 a0), (1, .slice A_a1 a1.length c_a1), (5, .bool y2), (6, .int .i64 x6), (7, .int .i64 x7), (25, .int .i64 x6), (26, .slice A_a1 a1.length c_a1), (27, .int .i64 x7)]) (by kernel_rfl) ?_
          obtain ⟨hg9, h1⟩ := guardS h1
          obtain ⟨g10, o14, hA11, hr12, hl13⟩ := RdS.get hr_a1 hg9.1 hg9.2
          refine OpsT.cons (Does.yi (Yl.indexSlice (d := 28) (T := 32) (cc := c_a1) (k := .i64) (j := x7) (g := g10) (o := o14) (by kernel_rfl) Go.Proofs.Tryd.underlying32 ty3 hA11 hg9.1 hg9.2) hI ?_)
          refine OpsT.cons (Does.yi (Yl.load (d := 29) (T := 3) (v := .int .i64 (gt a1 x7)) (by kernel_rfl) (ldR ty3 (v := .int .i64 (gt a1 x7)) 0 (fun w hC => hr12 w0 w _ hC) (by kernel_rfl))) hI ?_)
          obtain ⟨y16, hc15, h1⟩ := bindS h1
          try dsimp only at h1
          refine OpsT.cons (Does.call (d := some 30) (n := 18) (vs := [.int .i64 x6, .int .i64 (gt a1 x7)]) (by kernel_rfl) en18 (c18 w0 w _ _ hI hT x6 (gt a1 x7) _ hc15) ?_)
          rintro e w ⟨rfl, hI⟩
          refine ⟨_, rfl, ?_⟩
          refine OpsT.pures (r := []) [6] [0, 1, 5, 6, 7, 8] (S' := [(0, .int .i64 a0), (1, .slice A_a1 a1.length c_a1), (5, .bool y2), (6, .int .i64 x6), (7, .int .i64 x7), (8, .int .i64 y16)]) (by kernel_rfl) ?_
          refine OpsT.done ?_
          refine Qn.then ?_
          refine CodT.seq ?_
          obtain ⟨r2, h2, h1⟩ := bindS h1
          refine CodT.meet (fun a w => ∃ (x17 : Bool), x17 = r2 ∧ Fr 78 [(0, .int .i64 a0), (1, .slice A_a1 a1.length c_a1), (5, .bool y2), (7, .int .i64 x7), (8, .int .i64 y16), (56, .bool x17)] a ∧ Inv w0 Z w A) ?_ ?_
          ·
            refine CodT.regionL [0, 1, 2, 3, 4, 5, 6, 7, 8, 9, 10, 11, 12, 13, 14, 15, 16, 17, 18, 19, 20, 21, 22, 23, 24, 25] (by kernel_rfl) ?_
            refine OpsT.pures (r := [4, 5, 6, 7, 8, 9, 10, 11, 12, 13, 14, 15, 16, 17, 18, 19, 20, 21, 22, 23, 24, 25]) [0, 1, 2, 3] [0, 1, 5, 7, 8, 34] (S' := [(0, .int .i64 a0), (1, .slice A_a1 a1.length c_a1), (5, .bool y2), (7, .int .i64 x7), (8, .int .i64 y16), (34, .bool (decide (y16 < x6)))]) (by kernel_rfl) ?_
            by_cases hb18 : (decide (y16 < x6)) = true
            · rw [if_pos hb18] at h2
              refine OpsT.keep [0, 1, 5, 7, 8, 34] (S' := [(0, .int .i64 a0), (1, .slice A_a1 a1.length c_a1), (5, .bool y2), (7, .int .i64 x7), (8, .int .i64 y16), (34, .bool true)]) (by (try simp only [hb18]); kernel_rfl) ?_
              refine OpsT.pures (r := []) [4, 5, 6, 7, 8, 9, 10, 11, 12, 13, 14, 15, 16, 17, 18, 19, 20, 21, 22, 23, 24, 25] [0, 1, 5, 7, 8, 56] (S' := [(0, .int .i64 a0), (1, .slice A_a1 a1.length c_a1), (5, .bool y2), (7, .int .i64 x7), (8, .int .i64 y16), (56, .bool true)]) (by kernel_rfl) ?_
              refine OpsT.done ?_
              have e := someS h2
              subst e
              exact Qn.thenJ fun a ha => ⟨true, rfl, ha.keep [0, 1, 5, 7, 8, 56] (by kernel_rfl), hI⟩
            · rw [if_neg hb18] at h2
              have hb18 : (decide (y16 < x6)) = false := by simpa using hb18
              refine OpsT.keep [0, 1, 5, 7, 8, 34] (S' := [(0, .int .i64 a0), (1, .slice A_a1 a1.length c_a1), (5, .bool y2), (7, .int .i64 x7), (8, .int .i64 y16), (34, .bool false)]) (by (try simp only [hb18]); kernel_rfl) ?_
              refine OpsT.pures (r := [7, 8, 9, 10, 11, 12, 13, 14, 15, 16, 17, 18, 19, 20, 21, 22, 23, 24, 25]) [4, 5, 6] [0, 1, 5, 7, 8, 34, 35, 36, 37] (S' := [(0, .int .i64 a0), (1, .slice A_a1 a1.length c_a1), (5, .bool y2), (7, .int .i64 x7), (8, .int .i64 y16), (34, .bool false), (35, .int .i64 y16), (36, .slice A_a1 a1.length c_a1), (37, .int .i64 x7)]) (by kernel_rfl) ?_
              obtain ⟨hg19, h2⟩ := guardS h2
              obtain ⟨g20, o24, hA21, hr22, hl23⟩ := RdS.get hr_a1 hg19.1 hg19.2
              refine OpsT.cons (Does.yi (Yl.indexSlice (d := 38) (T := 32) (cc := c_a1) (k := .i64) (j := x7) (g := g20) (o := o24) (by kernel_rfl) Go.Proofs.Tryd.underlying32 ty3 hA21 hg19.1 hg19.2) hI ?_)
              refine OpsT.cons (Does.yi (Yl.load (d := 39) (T := 3) (v := .int .i64 (gt a1 x7)) (by kernel_rfl) (ldR ty3 (v := .int .i64 (gt a1 x7)) 0 (fun w hC => hr22 w0 w _ hC) (by kernel_rfl))) hI ?_)
              refine OpsT.pures (r := [11, 12, 13, 14, 15, 16, 17, 18, 19, 20, 21, 22, 23, 24, 25]) [9, 10] [0, 1, 5, 7, 8, 34, 41] (S' := [(0, .int .i64 a0), (1, .slice A_a1 a1.length c_a1), (5, .bool y2), (7, .int .i64 x7), (8, .int .i64 y16), (34, .bool false), (41, .bool (decide (y16 < (gt a1 x7))))]) (by kernel_rfl) ?_
              by_cases hb25 : (decide (y16 < (gt a1 x7))) = true
              · rw [if_pos hb25] at h2
                refine OpsT.keep [0, 1, 5, 7, 8, 34, 41] (S' := [(0, .int .i64 a0), (1, .slice A_a1 a1.length c_a1), (5, .bool y2), (7, .int .i64 x7), (8, .int .i64 y16), (34, .bool false), (41, .bool true)]) (by (try simp only [hb25]); kernel_rfl) ?_
                refine OpsT.pures (r := [13, 14, 15, 16, 17, 18, 19, 20, 21, 22, 23, 24, 25]) [11, 12] [0, 1, 5, 7, 8, 34, 41, 42, 43] (S' := [(0, .int .i64 a0), (1, .slice A_a1 a1.length c_a1), (5, .bool y2), (7, .int .i64 x7), (8, .int .i64 y16), (34, .bool false), (41, .bool true), (42, .slice A_a1 a1.length c_a1), (43, .int .i64 x7)]) (by kernel_rfl) ?_
                obtain ⟨hg26, h2⟩ := guardS h2
                obtain ⟨g27, o31, hA28, hr29, hl30⟩ := RdS.get hr_a1 hg26.1 hg26.2
                refine OpsT.cons (Does.yi (Yl.indexSlice (d := 44) (T := 32) (cc := c_a1) (k := .i64) (j := x7) (g := g27) (o := o31) (by kernel_rfl) Go.Proofs.Tryd.underlying32 ty3 hA28 hg26.1 hg26.2) hI ?_)
                refine OpsT.cons (Does.yi (Yl.load (d := 45) (T := 3) (v := .int .i64 (gt a1 x7)) (by kernel_rfl) (ldR ty3 (v := .int .i64 (gt a1 x7)) 0 (fun w hC => hr29 w0 w _ hC) (by kernel_rfl))) hI ?_)
                refine OpsT.pures (r := [19, 20, 21, 22, 23, 24, 25]) [15, 16, 17, 18] [0, 1, 5, 7, 8, 49] (S' := [(0, .int .i64 a0), (1, .slice A_a1 a1.length c_a1), (5, .bool y2), (7, .int .i64 x7), (8, .int .i64 y16), (49, .bool (decide ((gt a1 x7) ≤ 1099511627776)))]) (by kernel_rfl) ?_
                by_cases hb32 : (decide ((gt a1 x7) ≤ 1099511627776)) = true
                · rw [if_pos hb32] at h2
                  refine OpsT.keep [0, 1, 5, 7, 8, 49] (S' := [(0, .int .i64 a0), (1, .slice A_a1 a1.length c_a1), (5, .bool y2), (7, .int .i64 x7), (8, .int .i64 y16), (49, .bool true)]) (by (try simp only [hb32]); kernel_rfl) ?_
                  refine OpsT.pures (r := []) [19, 20, 21, 22, 23, 24, 25] [0, 1, 5, 7, 8, 56] (S' := [(0, .int .i64 a0), (1, .slice A_a1 a1.length c_a1), (5, .bool y2), (7, .int .i64 x7), (8, .int .i64 y16), (56, .bool true)]) (by kernel_rfl) ?_
                  refine OpsT.done ?_
                  have e := someS h2
                  subst e
                  exact Qn.thenJ fun a ha => ⟨true, rfl, ha.keep [0, 1, 5, 7, 8, 56] (by kernel_rfl), hI⟩
                · rw [if_neg hb32] at h2
                  have hb32 : (decide ((gt a1 x7) ≤ 1099511627776)) = false := by simpa using hb32
                  refine OpsT.keep [0, 1, 5, 7, 8, 49] (S' := [(0, .int .i64 a0), (1, .slice A_a1 a1.length c_a1), (5, .bool y2), (7, .int .i64 x7), (8, .int .i64 y16), (49, .bool false)]) (by (try simp only [hb32]); kernel_rfl) ?_
                  refine OpsT.pures (r := [22, 23, 24, 25]) [19, 20, 21] [0, 1, 5, 7, 8, 49, 52] (S' := [(0, .int .i64 a0), (1, .slice A_a1 a1.length c_a1), (5, .bool y2), (7, .int .i64 x7), (8, .int .i64 y16), (49, .bool false), (52, .bool (decide (y16 > 1099511627776)))]) (by kernel_rfl) ?_
                  by_cases hb33 : (decide (y16 > 1099511627776)) = true
                  · rw [if_pos hb33] at h2
                    refine OpsT.keep [0, 1, 5, 7, 8, 49, 52] (S' := [(0, .int .i64 a0), (1, .slice A_a1 a1.length c_a1), (5, .bool y2), (7, .int .i64 x7), (8, .int .i64 y16), (49, .bool false), (52, .bool true)]) (by (try simp only [hb33]); kernel_rfl) ?_
                    refine OpsT.pures (r := []) [22, 23, 24, 25] [0, 1, 5, 7, 8, 56] (S' := [(0, .int .i64 a0), (1, .slice A_a1 a1.length c_a1), (5, .bool y2), (7, .int .i64 x7), (8, .int .i64 y16), (56, .bool (decide (a0 ≤ 1099511627776)))]) (by kernel_rfl) ?_
                    refine OpsT.done ?_
                    have e := someS h2
                    subst e
                    exact Qn.thenJ fun a ha => ⟨decide (a0 ≤ 1099511627776), rfl, ha.keep [0, 1, 5, 7, 8, 56] (by kernel_rfl), hI⟩
                  · rw [if_neg hb33] at h2
                    have hb33 : (decide (y16 > 1099511627776)) = false := by simpa using hb33
                    refine OpsT.keep [0, 1, 5, 7, 8, 49, 52] (S' := [(0, .int .i64 a0), (1, .slice A_a1 a1.length c_a1), (5, .bool y2), (7, .int .i64 x7), (8, .int .i64 y16), (49, .bool false), (52, .bool false)]) (by (try simp only [hb33]); kernel_rfl) ?_
                    refine OpsT.pures (r := []) [22, 23, 24, 25] [0, 1, 5, 7, 8, 56] (S' := [(0, .int .i64 a0), (1, .slice A_a1 a1.length c_a1), (5, .bool y2), (7, .int .i64 x7), (8, .int .i64 y16), (56, .bool false)]) (by kernel_rfl) ?_
                    refine OpsT.done ?_
                    have e := someS h2
                    subst e
                    exact Qn.thenJ fun a ha => ⟨false, rfl, ha.keep [0, 1, 5, 7, 8, 56] (by kernel_rfl), hI⟩
              · rw [if_neg hb25] at h2
                have hb25 : (decide (y16 < (gt a1 x7))) = false := by simpa using hb25
                refine OpsT.keep [0, 1, 5, 7, 8, 34, 41] (S' := [(0, .int .i64 a0), (1, .slice A_a1 a1.length c_a1), (5, .bool y2), (7, .int .i64 x7), (8, .int .i64 y16), (34, .bool false), (41, .bool false)]) (by (try simp only [hb25]); kernel_rfl) ?_
                refine OpsT.pures (r := [22, 23, 24, 25]) [11, 12, 13, 14, 15, 16, 17, 18, 19, 20, 21] [0, 1, 5, 7, 8, 49, 52] (S' := [(0, .int .i64 a0), (1, .slice A_a1 a1.length c_a1), (5, .bool y2), (7, .int .i64 x7), (8, .int .i64 y16), (49, .bool false), (52, .bool (decide (y16 > 1099511627776)))]) (by kernel_rfl) ?_
                by_cases hb34 : (decide (y16 > 1099511627776)) = true
                · rw [if_pos hb34] at h2
                  refine OpsT.keep [0, 1, 5, 7, 8, 49, 52] (S' := [(0, .int .i64 a0), (1, .slice A_a1 a1.length c_a1), (5, .bool y2), (7, .int .i64 x7), (8, .int .i64 y16), (49, .bool false), (52, .bool true)]) (by (try simp only [hb34]); kernel_rfl) ?_
                  refine OpsT.pures (r := []) [22, 23, 24, 25] [0, 1, 5, 7, 8, 56] (S' := [(0, .int .i64 a0), (1, .slice A_a1 a1.length c_a1), (5, .bool y2), (7, .int .i64 x7), (8, .int .i64 y16), (56, .bool (decide (a0 ≤ 1099511627776)))]) (by kernel_rfl) ?_
                  refine OpsT.done ?_
                  have e := someS h2
                  subst e
                  exact Qn.thenJ fun a ha => ⟨decide (a0 ≤ 1099511627776), rfl, ha.keep [0, 1, 5, 7, 8, 56] (by kernel_rfl), hI⟩
                · rw [if_neg hb34] at h2
                  have hb34 : (decide (y16 > 1099511627776)) = false := by simpa using hb34
                  refine OpsT.keep [0, 1, 5, 7, 8, 49, 52] (S' := [(0, .int .i64 a0), (1, .slice A_a1 a1.length c_a1), (5, .bool y2), (7, .int .i64 x7), (8, .int .i64 y16), (49, .bool false), (52, .bool false)]) (by (try simp only [hb34]); kernel_rfl) ?_
                  refine OpsT.pures (r := []) [22, 23, 24, 25] [0, 1, 5, 7, 8, 56] (S' := [(0, .int .i64 a0), (1, .slice A_a1 a1.length c_a1), (5, .bool y2), (7, .int .i64 x7), (8, .int .i64 y16), (56, .bool false)]) (by kernel_rfl) ?_
                  refine OpsT.done ?_
                  have e := someS h2
                  subst e
                  exact Qn.thenJ fun a ha => ⟨false, rfl, ha.keep [0, 1, 5, 7, 8, 56] (by kernel_rfl), hI⟩
          ·
            rintro a w ⟨x17, rfl, ha, hI⟩
            try dsimp only at h1
            refine CodT.of ?_ ha
            by_cases hb35 : x17 = true
            · rw [if_pos hb35] at h1
              refine CodT.yes' (b := x17) (by kernel_rfl) hb35 ?_
              refine CodT.seq ?_
              refine CodT.regionL [0] (by kernel_rfl) ?_
              refine OpsT.pures (r := []) [0] [4] (S' := [(4, .bool false)]) (by kernel_rfl) ?_
              refine OpsT.done ?_
              refine Qn.then ?_
              refine CodT.ret ?_
              refine Qn.ret_then ?_
              refine Qn.block_ret ?_
              refine Qn.ret_then ?_
              refine Qn.ret_then ?_
              refine Qn.block_ret ?_
              refine Qn.ret_then ?_
              refine Qn.ret_then ?_
              have e := someS h1
              subst e
              try dsimp only at h0
              have e := someS h0
              subst e
              refine Qn.keep [4] (S' := [(4, .bool false)]) (by kernel_rfl) ?_
              exact post_ret (v := .bool false) (fun a ha => RunRes.run (vs := [.bool false]) (.tmp (t := 4) (by kernel_rfl) .nil) ha (by kernel_rfl)) ⟨rfl, hI⟩
            · rw [if_neg hb35] at h1
              refine CodT.no' (b := x17) (by kernel_rfl) (by simpa using hb35) ?_
              refine CodT.skip ?_
              refine Qn.then ?_
              refine CodT.regionL [0, 1] (by kernel_rfl) ?_
              refine OpsT.pures (r := []) [0, 1] [0, 1, 5, 6, 7] (S' := [(0, .int .i64 a0), (1, .slice A_a1 a1.length c_a1), (5, .bool y2), (6, .int .i64 y16), (7, .int .i64 x7)]) (by kernel_rfl) ?_
              refine OpsT.done ?_
              refine Qn.block_normal ?_
              refine Qn.then ?_
              refine CodT.regionL [0, 1, 2] (by kernel_rfl) ?_
              refine OpsT.pures (r := []) [0, 1, 2] [0, 1, 5, 6, 7] (S' := [(0, .int .i64 a0), (1, .slice A_a1 a1.length c_a1), (5, .bool y2), (6, .int .i64 y16), (7, .int .i64 (wi64 (x7 + 1)))]) (by kernel_rfl) ?_
              refine OpsT.done ?_
              exact Qn.thenJ fun a ha => ⟨k, Nat.lt_succ_self k, y16, wi64 (x7 + 1), h1, ha.keep [0, 1, 5, 6, 7] (by kernel_rfl), hI⟩
        · rw [if_neg hb8] at h1
          refine CodT.no' (b := decide (x7 < (a1.length : Int))) (by kernel_rfl) (by simpa using hb8) ?_
          refine CodT.exit ?_
          refine Qn.exit_then ?_
          refine Qn.exit_then ?_
          refine Qn.block ?_
          have e := someS h1
          subst e
          exact Qn.thenJ fun a ha => ⟨x6, rfl, ha.keep [0, 1, 5, 6] (by kernel_rfl), hI⟩
      ·
        rintro a w ⟨x5, rfl, ha, hI⟩
        try dsimp only at h0
        refine Qn.of ?_ ha
        refine Qn.then ?_
        refine CodT.seq ?_
        refine CodT.regionL [0, 1] (by kernel_rfl) ?_
        refine OpsT.pures (r := []) [0, 1] [1, 5, 6, 9] (S' := [(1, .slice A_a1 a1.length c_a1), (5, .bool y2), (6, .int .i64 x5), (9, .int .i64 a0)]) (by kernel_rfl) ?_
        refine OpsT.done ?_
        refine Qn.then ?_
        refine CodT.seq ?_
        refine CodT.seq ?_
        refine CodT.regionL [0, 1, 2, 3] (by kernel_rfl) ?_
        refine OpsT.pures (r := []) [0, 1, 2, 3] [1, 5, 6, 9, 10] (S' := [(1, .slice A_a1 a1.length c_a1), (5, .bool y2), (6, .int .i64 x5), (9, .int .i64 a0), (10, .int .i64 (wi64 ((a1.length : Int) - 1)))]) (by kernel_rfl) ?_
        refine OpsT.done ?_
        refine Qn.then ?_
        obtain ⟨r1, h1, h0⟩ := bindS h0
        refine CodT.meet1 (fun a w => ∃ (x36 : Int), x36 = r1 ∧ Fr 78 [(5, .bool y2), (6, .int .i64 x5), (9, .int .i64 x36)] a ∧ Inv w0 Z w A) ?_ ?_
        ·
          refine CodT.block ?_
          refine (fun a ha => wp_loopN (fun k a w => ∃ (x37 : Int) (x38 : Int), law07_RuleFloor.l1 a1 k x37 x38 = some r1 ∧ Fr 78 [(1, .slice A_a1 a1.length c_a1), (5, .bool y2), (6, .int .i64 x5), (9, .int .i64 x37), (10, .int .i64 x38)] a ∧ Inv w0 Z w A) ?_ FU a w ⟨a0, wi64 ((a1.length : Int) - 1), h1, ha.keep [1, 5, 6, 9, 10] (by kernel_rfl), hI⟩)
          clear h1 hI
          rintro k a w ⟨x37, x38, h1, ha, hI⟩
          rcases k with _ | k
          · cases h1
          simp only [law07_RuleFloor.l1] at h1
          refine CodT.of ?_ ha
          refine CodT.seq ?_
          refine CodT.seq ?_
          refine CodT.regionL [0, 1] (by kernel_rfl) ?_
          refine OpsT.pures (r := []) [0, 1] [1, 5, 6, 9, 10, 63] (S' := [(1, .slice A_a1 a1.length c_a1), (5, .bool y2), (6, .int .i64 x5), (9, .int .i64 x37), (10, .int .i64 x38), (63, .bool (decide (x38 ≥ 0)))]) (by kernel_rfl) ?_
          refine OpsT.done ?_
          refine Qn.then ?_
          by_cases hb39 : (decide (x38 ≥ 0)) = true
          · rw [if_pos hb39] at h1
            refine CodT.yes' (b := decide (x38 ≥ 0)) (by kernel_rfl) hb39 ?_
            refine CodT.skip ?_
            refine Qn.then ?_
            refine CodT.seq ?_
            refine CodT.block ?_
            refine CodT.regionL [0, 1, 2, 3, 4, 5, 6] (by kernel_rfl) ?_
            refine OpsT.pures (r := [3, 4, 5, 6]) [0, 1, 2] [1, 5, 6, 10, 66, 67, 68] (S' := [(1, .slice A_a1 a1.length c_a1), (5, .bool y2), (6, .int .i64 x5), (10, .int .i64 x38), (66, .int .i64 x37), (67, .slice A_a1 a1.length c_a1), (68, .int .i64 x38)]) (by kernel_rfl) ?_
            obtain ⟨hg40, h1⟩ := guardS h1
            obtain ⟨g41, o45, hA42, hr43, hl44⟩ := RdS.get hr_a1 hg40.1 hg40.2
            refine OpsT.cons (Does.yi (Yl.indexSlice (d := 69) (T := 32) (cc := c_a1) (k := .i64) (j := x38) (g := g41) (o := o45) (by kernel_rfl) Go.Proofs.Tryd.underlying32 ty3 hA42 hg40.1 hg40.2) hI ?_)
            refine OpsT.cons (Does.yi (Yl.load (d := 70) (T := 3) (v := .int .i64 (gt a1 x38)) (by kernel_rfl) (ldR ty3 (v := .int .i64 (gt a1 x38)) 0 (fun w hC => hr43 w0 w _ hC) (by kernel_rfl))) hI ?_)
            obtain ⟨y47, hc46, h1⟩ := bindS h1
            try dsimp only at h1
            refine OpsT.cons (Does.call (d := some 71) (n := 18) (vs := [.int .i64 x37, .int .i64 (gt a1 x38)]) (by kernel_rfl) en18 (c18 w0 w _ _ hI hT x37 (gt a1 x38) _ hc46) ?_)
            rintro e w ⟨rfl, hI⟩
            refine ⟨_, rfl, ?_⟩
            refine OpsT.pures (r := []) [6] [1, 5, 6, 9, 10] (S' := [(1, .slice A_a1 a1.length c_a1), (5, .bool y2), (6, .int .i64 x5), (9, .int .i64 y47), (10, .int .i64 x38)]) (by kernel_rfl) ?_
            refine OpsT.done ?_
            refine Qn.block_normal ?_
            refine Qn.then ?_
            refine CodT.regionL [0, 1, 2] (by kernel_rfl) ?_
            refine OpsT.pures (r := []) [0, 1, 2] [1, 5, 6, 9, 10] (S' := [(1, .slice A_a1 a1.length c_a1), (5, .bool y2), (6, .int .i64 x5), (9, .int .i64 y47), (10, .int .i64 (wi64 (x38 - 1)))]) (by kernel_rfl) ?_
            refine OpsT.done ?_
            exact Qn.thenJ fun a ha => ⟨k, Nat.lt_succ_self k, y47, wi64 (x38 - 1), h1, ha.keep [1, 5, 6, 9, 10] (by kernel_rfl), hI⟩
          · rw [if_neg hb39] at h1
            refine CodT.no' (b := decide (x38 ≥ 0)) (by kernel_rfl) (by simpa using hb39) ?_
            refine CodT.exit ?_
            refine Qn.exit_then ?_
            refine Qn.exit_then ?_
            refine Qn.block ?_
            have e := someS h1
            subst e
            exact Qn.thenJ fun a ha => ⟨x37, rfl, ha.keep [5, 6, 9] (by kernel_rfl), hI⟩
        ·
          rintro a w ⟨x36, rfl, ha, hI⟩
          try dsimp only at h0
          refine Qn.of ?_ ha
          refine Qn.then ?_
          obtain ⟨r1, h1, h0⟩ := bindS h0
          refine CodT.meet (fun a w => ∃ (x48 : Bool), x48 = r1 ∧ Fr 78 [(4, .bool x48)] a ∧ Inv w0 Z w A) ?_ ?_
          ·
            refine CodT.regionL [0, 1, 2, 3, 4, 5, 6] (by kernel_rfl) ?_
            refine OpsT.pures (r := [2, 3, 4, 5, 6]) [0, 1] [6, 9, 73] (S' := [(6, .int .i64 x5), (9, .int .i64 x36), (73, .bool y2)]) (by kernel_rfl) ?_
            by_cases hb49 : y2 = true
            · rw [if_pos hb49] at h1
              refine OpsT.keep [6, 9, 73] (S' := [(6, .int .i64 x5), (9, .int .i64 x36), (73, .bool true)]) (by (try simp only [hb49]); kernel_rfl) ?_
              refine OpsT.pures (r := []) [2, 3, 4, 5, 6] [4] (S' := [(4, .bool (x5 == x36))]) (by kernel_rfl) ?_
              refine OpsT.done ?_
              have e := someS h1
              subst e
              exact Qn.thenJ fun a ha => ⟨x5 == x36, rfl, ha.keep [4] (by kernel_rfl), hI⟩
            · rw [if_neg hb49] at h1
              have hb49 : y2 = false := by simpa using hb49
              refine OpsT.keep [6, 9, 73] (S' := [(6, .int .i64 x5), (9, .int .i64 x36), (73, .bool false)]) (by (try simp only [hb49]); kernel_rfl) ?_
              refine OpsT.pures (r := []) [2, 3, 4, 5, 6] [4] (S' := [(4, .bool false)]) (by kernel_rfl) ?_
              refine OpsT.done ?_
              have e := someS h1
              subst e
              exact Qn.thenJ fun a ha => ⟨false, rfl, ha.keep [4] (by kernel_rfl), hI⟩
          ·
            rintro a w ⟨x48, rfl, ha, hI⟩
            try dsimp only at h0
            refine CodT.of ?_ ha
            refine CodT.ret ?_
            have e := someS h0
            subst e
            refine Qn.keep [4] (S' := [(4, .bool x48)]) (by kernel_rfl) ?_
            exact post_ret (v := .bool x48) (fun a ha => RunRes.run (vs := [.bool x48]) (.tmp (t := 4) (by kernel_rfl) .nil) ha (by kernel_rfl)) ⟨rfl, hI⟩
end Go.Cen
