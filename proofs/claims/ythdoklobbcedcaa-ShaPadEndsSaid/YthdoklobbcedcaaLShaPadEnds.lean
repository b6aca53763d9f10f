/- The walk of the law ShaPadEnds, printed by a program of ours. -/
import Derived.Test.YthdoklobbcedcaaW1
set_option linter.unusedVariables false
set_option linter.unusedSimpArgs false
namespace Go.Cen
set_option maxRecDepth 100000 in
set_option maxHeartbeats 4000000 in
/-- cenotaph/cenotaphlaw02.ShaPadEnds -/
theorem c7 (w0 w : World) (Z : Hp) (A : HP) (hI : Inv w0 Z w A) (a0 : ByteArray) (r : Bool) (h0 : law02_ShaPadEnds a0 = some r) :
    Calls prog 7 #[.string a0] w (fun e w' => e = .returned (.bool r) ∧ Inv w0 Z w' A) := by
  refine calls_intro (args := [.string a0]) (fn := Go.Proofs.Try.f7) 68 Go.Proofs.Try.func7 (by rfl) Go.Proofs.Try.ntmps7 (by kernel_rfl) ?_
  unfold law02_ShaPadEnds at h0
  refine CodT.seq ?_
  refine CodT.regionL [0] (by kernel_rfl) ?_
  refine OpsT.pures (r := []) [0] [0] (S' := [(0, .string a0)]) (by kernel_rfl) ?_
  refine OpsT.done ?_
  refine Qn.then ?_
  refine CodT.seq ?_
  refine CodT.regionL [0, 1] (by kernel_rfl) ?_
  obtain ⟨y2, hc1, h0⟩ := bindS h0
  try dsimp only at h0
  refine OpsT.cons (Does.call (d := some 8) (n := 14) (vs := []) (by kernel_rfl) en14 (c14 w0 w _ _ hI  _ hc1) ?_)
  rintro e w ⟨rfl, hI⟩
  refine ⟨_, rfl, ?_⟩
  refine OpsT.pures (r := []) [1] [0, 3] (S' := [(0, .string a0), (3, .bool y2)]) (by kernel_rfl) ?_
  refine OpsT.done ?_
  refine Qn.then ?_
  refine CodT.seq ?_
  refine CodT.seq ?_
  refine CodT.regionL [0, 1] (by kernel_rfl) ?_
  refine OpsT.pures (r := []) [0, 1] [0, 3, 10] (S' := [(0, .string a0), (3, .bool y2), (10, .bool (!y2))]) (by kernel_rfl) ?_
  refine OpsT.done ?_
  refine Qn.then ?_
  by_cases hb3 : (!y2) = true
  · rw [if_pos hb3] at h0
    refine CodT.yes' (b := !y2) (by kernel_rfl) hb3 ?_
    refine CodT.seq ?_
    refine CodT.regionL [0] (by kernel_rfl) ?_
    refine OpsT.pures (r := []) [0] [2] (S' := [(2, .bool false)]) (by kernel_rfl) ?_
    refine OpsT.done ?_
    refine Qn.then ?_
    refine CodT.ret ?_
    refine Qn.ret_then ?_
    have e := someS h0
    subst e
    refine Qn.keep [2] (S' := [(2, .bool false)]) (by kernel_rfl) ?_
    exact post_ret (v := .bool false) (fun a ha => RunRes.run (vs := [.bool false]) (.tmp (t := 2) (by kernel_rfl) .nil) ha (by kernel_rfl)) ⟨rfl, hI⟩
  · rw [if_neg hb3] at h0
    refine CodT.no' (b := !y2) (by kernel_rfl) (by simpa using hb3) ?_
    refine CodT.skip ?_
    refine Qn.then ?_
    refine CodT.seq ?_
    refine CodT.seq ?_
    refine CodT.regionL [0, 1, 2] (by kernel_rfl) ?_
    refine OpsT.pures (r := []) [0, 1, 2] [0, 3, 13] (S' := [(0, .string a0), (3, .bool y2), (13, .bool (decide ((a0.size : Int) > 2000)))]) (by kernel_rfl) ?_
    refine OpsT.done ?_
    refine Qn.then ?_
    by_cases hb4 : (decide ((a0.size : Int) > 2000)) = true
    · rw [if_pos hb4] at h0
      refine CodT.yes' (b := decide ((a0.size : Int) > 2000)) (by kernel_rfl) hb4 ?_
      refine CodT.seq ?_
      refine CodT.regionL [0, 1] (by kernel_rfl) ?_
      refine OpsT.pures (r := []) [0, 1] [2] (S' := [(2, .bool y2)]) (by kernel_rfl) ?_
      refine OpsT.done ?_
      refine Qn.then ?_
      refine CodT.ret ?_
      refine Qn.ret_then ?_
      have e := someS h0
      subst e
      refine Qn.keep [2] (S' := [(2, .bool y2)]) (by kernel_rfl) ?_
      exact post_ret (v := .bool y2) (fun a ha => RunRes.run (vs := [.bool y2]) (.tmp (t := 2) (by kernel_rfl) .nil) ha (by kernel_rfl)) ⟨rfl, hI⟩
    · rw [if_neg hb4] at h0
      refine CodT.no' (b := decide ((a0.size : Int) > 2000)) (by kernel_rfl) (by simpa using hb4) ?_
      refine CodT.skip ?_
      refine Qn.then ?_
      refine CodT.seq ?_
      refine CodT.regionL [0, 1, 2] (by kernel_rfl) ?_
      refine OpsT.pures (r := [1, 2]) [0] [0, 3, 15] (S' := [(0, .string a0), (3, .bool y2), (15, .string a0)]) (by kernel_rfl) ?_
      obtain ⟨y6, hc5, h0⟩ := bindS h0
      try dsimp only at h0
      refine OpsT.cons (Does.call (d := some 16) (n := 17) (vs := [.string a0]) (by kernel_rfl) en17 (c17 w0 w _ _ hI a0 _ hc5) ?_)
      rintro e w ⟨rfl, hI⟩
      refine ⟨_, rfl, ?_⟩
      refine OpsT.pures (r := []) [2] [0, 3, 4] (S' := [(0, .string a0), (3, .bool y2), (4, .string y6)]) (by kernel_rfl) ?_
      refine OpsT.done ?_
      refine Qn.then ?_
      refine CodT.seq ?_
      refine CodT.seq ?_
      refine CodT.regionL [0, 1, 2, 3, 4, 5] (by kernel_rfl) ?_
      refine OpsT.pures (r := []) [0, 1, 2, 3, 4, 5] [0, 3, 4, 22] (S' := [(0, .string a0), (3, .bool y2), (4, .string y6), (22, .bool (decide ((y6.size : Int) < (wi64 ((a0.size : Int) + 9)))))]) (by kernel_rfl) ?_
      refine OpsT.done ?_
      refine Qn.then ?_
      by_cases hb7 : (decide ((y6.size : Int) < (wi64 ((a0.size : Int) + 9)))) = true
      · rw [if_pos hb7] at h0
        refine CodT.yes' (b := decide ((y6.size : Int) < (wi64 ((a0.size : Int) + 9)))) (by kernel_rfl) hb7 ?_
        refine CodT.seq ?_
        refine CodT.regionL [0] (by kernel_rfl) ?_
        refine OpsT.pures (r := []) [0] [2] (S' := [(2, .bool false)]) (by kernel_rfl) ?_
        refine OpsT.done ?_
        refine Qn.then ?_
        refine CodT.ret ?_
        refine Qn.ret_then ?_
        have e := someS h0
        subst e
        refine Qn.keep [2] (S' := [(2, .bool false)]) (by kernel_rfl) ?_
        exact post_ret (v := .bool false) (fun a ha => RunRes.run (vs := [.bool false]) (.tmp (t := 2) (by kernel_rfl) .nil) ha (by kernel_rfl)) ⟨rfl, hI⟩
      · rw [if_neg hb7] at h0
        refine CodT.no' (b := decide ((y6.size : Int) < (wi64 ((a0.size : Int) + 9)))) (by kernel_rfl) (by simpa using hb7) ?_
        refine CodT.skip ?_
        refine Qn.then ?_
        refine CodT.seq ?_
        refine CodT.regionL [0] (by kernel_rfl) ?_
        refine OpsT.pures (r := []) [0] [0, 3, 4, 5] (S' := [(0, .string a0), (3, .bool y2), (4, .string y6), (5, .int .i64 0)]) (by kernel_rfl) ?_
        refine OpsT.done ?_
        refine Qn.then ?_
        refine CodT.seq ?_
        refine CodT.seq ?_
        refine CodT.regionL [0, 1, 2, 3] (by kernel_rfl) ?_
        refine OpsT.pures (r := []) [0, 1, 2, 3] [0, 3, 4, 5, 6] (S' := [(0, .string a0), (3, .bool y2), (4, .string y6), (5, .int .i64 0), (6, .int .i64 (wi64 ((y6.size : Int) - 8)))]) (by kernel_rfl) ?_
        refine OpsT.done ?_
        refine Qn.then ?_
        obtain ⟨r1, h1, h0⟩ := bindS h0
        refine CodT.meet1 (fun a w => ∃ (x8 : Int), x8 = r1 ∧ Fr 68 [(0, .string a0), (3, .bool y2), (4, .string y6), (5, .int .i64 x8)] a ∧ Inv w0 Z w A) ?_ ?_
        ·
          refine CodT.block ?_
          refine (fun a ha => wp_loopN (fun k a w => ∃ (x9 : Int) (x10 : Int), law02_ShaPadEnds.l0 y6 k x9 x10 = some r1 ∧ Fr 68 [(0, .string a0), (3, .bool y2), (4, .string y6), (5, .int .i64 x9), (6, .int .i64 x10)] a ∧ Inv w0 Z w A) ?_ FU a w ⟨0, wi64 ((y6.size : Int) - 8), h1, ha.keep [0, 3, 4, 5, 6] (by kernel_rfl), hI⟩)
          clear h1 hI
          rintro k a w ⟨x9, x10, h1, ha, hI⟩
          rcases k with _ | k
          · cases h1
          simp only [law02_ShaPadEnds.l0] at h1
          refine CodT.of ?_ ha
          refine CodT.seq ?_
          refine CodT.seq ?_
          refine CodT.regionL [0, 1, 2, 3] (by kernel_rfl) ?_
          refine OpsT.pures (r := []) [0, 1, 2, 3] [0, 3, 4, 5, 6, 29] (S' := [(0, .string a0), (3, .bool y2), (4, .string y6), (5, .int .i64 x9), (6, .int .i64 x10), (29, .bool (decide (x10 < (y6.size : Int))))]) (by kernel_rfl) ?_
          refine OpsT.done ?_
          refine Qn.then ?_
          by_cases hb11 : (decide (x10 < (y6.size : Int))) = true
          · rw [if_pos hb11] at h1
            refine CodT.yes' (b := decide (x10 < (y6.size : Int))) (by kernel_rfl) hb11 ?_
            refine CodT.skip ?_
            refine Qn.then ?_
            refine CodT.seq ?_
            refine CodT.block ?_
            refine CodT.regionL [0, 1, 2, 3, 4, 5, 6, 7] (by kernel_rfl) ?_
            refine OpsT.pures (r := [4, 5, 6, 7]) [0, 1, 2, 3] [0, 3, 4, 6, 33, 34, 35] (S' := [(0, .string a0), (3, .bool y2), (4, .string y6), (6, .int .i64 x10), (33, .int .i64 (wi64 (x9 * 256))), (34, .string y6), (35, .int .i64 x10)]) (by kernel_rfl) ?_
            obtain ⟨hg12, h1⟩ := guardS h1
            refine OpsT.cons (Does.yi (Yl.indexStr (d := 36) (T := 9) (k := .i64) (j := x10) (s := y6) (by kernel_rfl) Go.Proofs.Try.underlying9 hg12.1 hg12.2) hI ?_)
            refine OpsT.pures (r := []) [5, 6, 7] [0, 3, 4, 5, 6] (S' := [(0, .string a0), (3, .bool y2), (4, .string y6), (5, .int .i64 (wi64 ((wi64 (x9 * 256)) + (wi64 (bt y6 x10))))), (6, .int .i64 x10)]) (by kernel_rfl) ?_
            refine OpsT.done ?_
            refine Qn.block_normal ?_
            refine Qn.then ?_
            refine CodT.regionL [0, 1, 2] (by kernel_rfl) ?_
            refine OpsT.pures (r := []) [0, 1, 2] [0, 3, 4, 5, 6] (S' := [(0, .string a0), (3, .bool y2), (4, .string y6), (5, .int .i64 (wi64 ((wi64 (x9 * 256)) + (wi64 (bt y6 x10))))), (6, .int .i64 (wi64 (x10 + 1)))]) (by kernel_rfl) ?_
            refine OpsT.done ?_
            exact Qn.thenJ fun a ha => ⟨k, Nat.lt_succ_self k, wi64 ((wi64 (x9 * 256)) + (wi64 (bt y6 x10))), wi64 (x10 + 1), h1, ha.keep [0, 3, 4, 5, 6] (by kernel_rfl), hI⟩
          · rw [if_neg hb11] at h1
            refine CodT.no' (b := decide (x10 < (y6.size : Int))) (by kernel_rfl) (by simpa using hb11) ?_
            refine CodT.exit ?_
            refine Qn.exit_then ?_
            refine Qn.exit_then ?_
            refine Qn.block ?_
            have e := someS h1
            subst e
            exact Qn.thenJ fun a ha => ⟨x9, rfl, ha.keep [0, 3, 4, 5] (by kernel_rfl), hI⟩
        ·
          rintro a w ⟨x8, rfl, ha, hI⟩
          try dsimp only at h0
          refine Qn.of ?_ ha
          refine Qn.then ?_
          refine CodT.seq ?_
          refine CodT.seq ?_
          refine CodT.regionL [0, 1, 2, 3] (by kernel_rfl) ?_
          refine OpsT.pures (r := []) [0, 1, 2, 3] [0, 3, 4, 5, 7] (S' := [(0, .string a0), (3, .bool y2), (4, .string y6), (5, .int .i64 x8), (7, .int .i64 (wi64 ((a0.size : Int) + 1)))]) (by kernel_rfl) ?_
          refine OpsT.done ?_
          refine Qn.then ?_
          obtain ⟨r1, h1, h0⟩ := bindS h0
          refine CodT.meet1 (fun a w => .inr () = r1 ∧ Fr 68 [(0, .string a0), (3, .bool y2), (4, .string y6), (5, .int .i64 x8)] a ∧ Inv w0 Z w A) ?_ ?_
          ·
            refine CodT.block ?_
            refine (fun a ha => wp_loopN (fun k a w => ∃ (x13 : Int), law02_ShaPadEnds.l1 y6 k x13 = some r1 ∧ Fr 68 [(0, .string a0), (3, .bool y2), (4, .string y6), (5, .int .i64 x8), (7, .int .i64 x13)] a ∧ Inv w0 Z w A) ?_ FU a w ⟨wi64 ((a0.size : Int) + 1), h1, ha.keep [0, 3, 4, 5, 7] (by kernel_rfl), hI⟩)
            clear h1 hI
            rintro k a w ⟨x13, h1, ha, hI⟩
            rcases k with _ | k
            · cases h1
            simp only [law02_ShaPadEnds.l1] at h1
            refine CodT.of ?_ ha
            refine CodT.seq ?_
            refine CodT.seq ?_
            refine CodT.regionL [0, 1, 2, 3, 4] (by kernel_rfl) ?_
            refine OpsT.pures (r := []) [0, 1, 2, 3, 4] [0, 3, 4, 5, 7, 46] (S' := [(0, .string a0), (3, .bool y2), (4, .string y6), (5, .int .i64 x8), (7, .int .i64 x13), (46, .bool (decide (x13 < (wi64 ((y6.size : Int) - 8)))))]) (by kernel_rfl) ?_
            refine OpsT.done ?_
            refine Qn.then ?_
            by_cases hb14 : (decide (x13 < (wi64 ((y6.size : Int) - 8)))) = true
            · rw [if_pos hb14] at h1
              refine CodT.yes' (b := decide (x13 < (wi64 ((y6.size : Int) - 8)))) (by kernel_rfl) hb14 ?_
              refine CodT.skip ?_
              refine Qn.then ?_
              refine CodT.seq ?_
              refine CodT.block ?_
              refine CodT.seq ?_
              refine CodT.regionL [0, 1, 2, 3] (by kernel_rfl) ?_
              refine OpsT.pures (r := [2, 3]) [0, 1] [0, 3, 4, 5, 7, 49, 50] (S' := [(0, .string a0), (3, .bool y2), (4, .string y6), (5, .int .i64 x8), (7, .int .i64 x13), (49, .string y6), (50, .int .i64 x13)]) (by kernel_rfl) ?_
              obtain ⟨hg15, h1⟩ := guardS h1
              refine OpsT.cons (Does.yi (Yl.indexStr (d := 51) (T := 9) (k := .i64) (j := x13) (s := y6) (by kernel_rfl) Go.Proofs.Try.underlying9 hg15.1 hg15.2) hI ?_)
              refine OpsT.pures (r := []) [3] [0, 3, 4, 5, 7, 52] (S' := [(0, .string a0), (3, .bool y2), (4, .string y6), (5, .int .i64 x8), (7, .int .i64 x13), (52, .bool ((bt y6 x13) != 0))]) (by kernel_rfl) ?_
              refine OpsT.done ?_
              refine Qn.then ?_
              by_cases hb16 : ((bt y6 x13) != 0) = true
              · rw [if_pos hb16] at h1
                refine CodT.yes' (b := (bt y6 x13) != 0) (by kernel_rfl) hb16 ?_
                refine CodT.seq ?_
                refine CodT.regionL [0] (by kernel_rfl) ?_
                refine OpsT.pures (r := []) [0] [2] (S' := [(2, .bool false)]) (by kernel_rfl) ?_
                refine OpsT.done ?_
                refine Qn.then ?_
                refine CodT.ret ?_
                refine Qn.block_ret ?_
                refine Qn.ret_then ?_
                refine Qn.ret_then ?_
                refine Qn.block_ret ?_
                refine Qn.ret_then ?_
                refine Qn.ret_then ?_
                have e := someS h1
                subst e
                try dsimp only at h0
                have e := someS h0
                subst e
                refine Qn.keep [2] (S' := [(2, .bool false)]) (by kernel_rfl) ?_
                exact post_ret (v := .bool false) (fun a ha => RunRes.run (vs := [.bool false]) (.tmp (t := 2) (by kernel_rfl) .nil) ha (by kernel_rfl)) ⟨rfl, hI⟩
              · rw [if_neg hb16] at h1
                refine CodT.no' (b := (bt y6 x13) != 0) (by kernel_rfl) (by simpa using hb16) ?_
                refine CodT.skip ?_
                refine Qn.block_normal ?_
                refine Qn.then ?_
                refine CodT.regionL [0, 1, 2] (by kernel_rfl) ?_
                refine OpsT.pures (r := []) [0, 1, 2] [0, 3, 4, 5, 7] (S' := [(0, .string a0), (3, .bool y2), (4, .string y6), (5, .int .i64 x8), (7, .int .i64 (wi64 (x13 + 1)))]) (by kernel_rfl) ?_
                refine OpsT.done ?_
                exact Qn.thenJ fun a ha => ⟨k, Nat.lt_succ_self k, wi64 (x13 + 1), h1, ha.keep [0, 3, 4, 5, 7] (by kernel_rfl), hI⟩
            · rw [if_neg hb14] at h1
              refine CodT.no' (b := decide (x13 < (wi64 ((y6.size : Int) - 8)))) (by kernel_rfl) (by simpa using hb14) ?_
              refine CodT.exit ?_
              refine Qn.exit_then ?_
              refine Qn.exit_then ?_
              refine Qn.block ?_
              have e := someS h1
              subst e
              exact Qn.thenJ fun a ha => ⟨rfl, ha.keep [0, 3, 4, 5] (by kernel_rfl), hI⟩
          ·
            rintro a w ⟨rfl, ha, hI⟩
            try dsimp only at h0
            refine Qn.of ?_ ha
            refine Qn.then ?_
            obtain ⟨r1, h1, h0⟩ := bindS h0
            refine CodT.meet (fun a w => ∃ (x17 : Bool), x17 = r1 ∧ Fr 68 [(2, .bool x17)] a ∧ Inv w0 Z w A) ?_ ?_
            ·
              refine CodT.regionL [0, 1, 2, 3, 4, 5, 6, 7, 8, 9, 10, 11, 12, 13, 14, 15] (by kernel_rfl) ?_
              refine OpsT.pures (r := [2, 3, 4, 5, 6, 7, 8, 9, 10, 11, 12, 13, 14, 15]) [0, 1] [0, 4, 5, 54] (S' := [(0, .string a0), (4, .string y6), (5, .int .i64 x8), (54, .bool y2)]) (by kernel_rfl) ?_
              by_cases hb18 : y2 = true
              · rw [if_pos hb18] at h1
                refine OpsT.keep [0, 4, 5, 54] (S' := [(0, .string a0), (4, .string y6), (5, .int .i64 x8), (54, .bool true)]) (by simp only [hb18]; kernel_rfl) ?_
                refine OpsT.pures (r := [9, 10, 11, 12, 13, 14, 15]) [2, 3, 4, 5, 6, 7, 8] [0, 4, 61] (S' := [(0, .string a0), (4, .string y6), (61, .bool (x8 == (wi64 (8 * (a0.size : Int)))))]) (by kernel_rfl) ?_
                by_cases hb19 : (x8 == (wi64 (8 * (a0.size : Int)))) = true
                · rw [if_pos hb19] at h1
                  refine OpsT.keep [0, 4, 61] (S' := [(0, .string a0), (4, .string y6), (61, .bool true)]) (by simp only [hb19]; kernel_rfl) ?_
                  refine OpsT.pures (r := [12, 13, 14, 15]) [9, 10, 11] [61, 62, 64] (S' := [(61, .bool true), (62, .string y6), (64, .int .i64 (a0.size : Int))]) (by kernel_rfl) ?_
                  obtain ⟨hg20, h1⟩ := guardS h1
                  refine OpsT.cons (Does.yi (Yl.indexStr (d := 65) (T := 9) (k := .i64) (j := (a0.size : Int)) (s := y6) (by kernel_rfl) Go.Proofs.Try.underlying9 hg20.1 hg20.2) hI ?_)
                  refine OpsT.pures (r := []) [13, 14, 15] [2] (S' := [(2, .bool ((bt y6 (a0.size : Int)) == 128))]) (by kernel_rfl) ?_
                  refine OpsT.done ?_
                  have e := someS h1
                  subst e
                  exact Qn.thenJ fun a ha => ⟨(bt y6 (a0.size : Int)) == 128, rfl, ha.keep [2] (by kernel_rfl), hI⟩
                · rw [if_neg hb19] at h1
                  have hb19 : (x8 == (wi64 (8 * (a0.size : Int)))) = false := by simpa using hb19
                  refine OpsT.keep [0, 4, 61] (S' := [(0, .string a0), (4, .string y6), (61, .bool false)]) (by simp only [hb19]; kernel_rfl) ?_
                  refine OpsT.pures (r := []) [9, 10, 11, 12, 13, 14, 15] [2] (S' := [(2, .bool false)]) (by kernel_rfl) ?_
                  refine OpsT.done ?_
                  have e := someS h1
                  subst e
                  exact Qn.thenJ fun a ha => ⟨false, rfl, ha.keep [2] (by kernel_rfl), hI⟩
              · rw [if_neg hb18] at h1
                have hb18 : y2 = false := by simpa using hb18
                refine OpsT.keep [0, 4, 5, 54] (S' := [(0, .string a0), (4, .string y6), (5, .int .i64 x8), (54, .bool false)]) (by simp only [hb18]; kernel_rfl) ?_
                refine OpsT.pures (r := []) [2, 3, 4, 5, 6, 7, 8, 9, 10, 11, 12, 13, 14, 15] [2] (S' := [(2, .bool false)]) (by kernel_rfl) ?_
                refine OpsT.done ?_
                have e := someS h1
                subst e
                exact Qn.thenJ fun a ha => ⟨false, rfl, ha.keep [2] (by kernel_rfl), hI⟩
            ·
              rintro a w ⟨x17, rfl, ha, hI⟩
              try dsimp only at h0
              refine CodT.of ?_ ha
              refine CodT.ret ?_
              have e := someS h0
              subst e
              refine Qn.keep [2] (S' := [(2, .bool x17)]) (by kernel_rfl) ?_
              exact post_ret (v := .bool x17) (fun a ha => RunRes.run (vs := [.bool x17]) (.tmp (t := 2) (by kernel_rfl) .nil) ha (by kernel_rfl)) ⟨rfl, hI⟩
end Go.Cen
