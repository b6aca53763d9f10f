/- The walk of the law ShaText, printed by a program of ours. -/
import Derived.Test.YthdoklobbcedcaaW1
set_option linter.unusedVariables false
set_option linter.unusedSimpArgs false
namespace Go.Cen
set_option maxRecDepth 100000 in
set_option maxHeartbeats 4000000 in
/-- cenotaph/cenotaphlaw02.ShaText -/
theorem c6 (w0 w : World) (Z : Hp) (A : HP) (hI : Inv w0 Z w A) (a0 : (List Int)) (hl_a0 : a0.length = 32) (a1 : (List Int)) (hl_a1 : a1.length = 32) (r : Bool) (h0 : law02_ShaText a0 a1 = some r) :
    Calls prog 6 #[.agg (cA (Value.int .u8) a0).toArray, .agg (cA (Value.int .u8) a1).toArray] w (fun e w' => e = .returned (.bool r) ∧ Inv w0 Z w' A) := by
  refine calls_intro (args := [.agg (cA (Value.int .u8) a0).toArray, .agg (cA (Value.int .u8) a1).toArray]) (fn := Go.Proofs.Try.f6) 61 Go.Proofs.Try.func6 (by rfl) Go.Proofs.Try.ntmps6 (by kernel_rfl) ?_
  unfold law02_ShaText at h0
  refine CodT.seq ?_
  refine CodT.regionL [0, 1, 2] (by kernel_rfl) ?_
  refine OpsT.cons (Does.boxL (d := 2) (T := 23) (v := .agg (cA (Value.int .u8) a0).toArray) (cA (Value.int .u8) a0) (by kernel_rfl) hI (by kernel_rfl) ?_)
  intro b1 w hI
  refine OpsT.cons (Does.boxL (d := 3) (T := 23) (v := .agg (cA (Value.int .u8) a1).toArray) (cA (Value.int .u8) a1) (by kernel_rfl) hI (by kernel_rfl) ?_)
  intro b2 w hI
  refine OpsT.pures (r := []) [2] [2, 3] (S' := [(2, .pointer (some ⟨b1, 0, none⟩)), (3, .pointer (some ⟨b2, 0, none⟩))]) (by kernel_rfl) ?_
  refine OpsT.done ?_
  refine Qn.then ?_
  refine CodT.seq ?_
  refine CodT.regionL [0, 1] (by kernel_rfl) ?_
  obtain ⟨y4, hc3, h0⟩ := bindS h0
  try dsimp only at h0
  refine OpsT.cons (Does.call (d := some 10) (n := 14) (vs := []) (by kernel_rfl) en14 (c14 w0 w _ _ hI  _ hc3) ?_)
  rintro e w ⟨rfl, hI⟩
  refine ⟨_, rfl, ?_⟩
  refine OpsT.pures (r := []) [1] [2, 3, 5] (S' := [(2, .pointer (some ⟨b1, 0, none⟩)), (3, .pointer (some ⟨b2, 0, none⟩)), (5, .bool y4)]) (by kernel_rfl) ?_
  refine OpsT.done ?_
  refine Qn.then ?_
  refine CodT.seq ?_
  refine CodT.seq ?_
  refine CodT.regionL [0, 1] (by kernel_rfl) ?_
  refine OpsT.pures (r := []) [0, 1] [2, 3, 5, 12] (S' := [(2, .pointer (some ⟨b1, 0, none⟩)), (3, .pointer (some ⟨b2, 0, none⟩)), (5, .bool y4), (12, .bool (!y4))]) (by kernel_rfl) ?_
  refine OpsT.done ?_
  refine Qn.then ?_
  by_cases hb5 : (!y4) = true
  · rw [if_pos hb5] at h0
    refine CodT.yes' (b := !y4) (by kernel_rfl) hb5 ?_
    refine CodT.seq ?_
    refine CodT.regionL [0] (by kernel_rfl) ?_
    refine OpsT.pures (r := []) [0] [4] (S' := [(4, .bool false)]) (by kernel_rfl) ?_
    refine OpsT.done ?_
    refine Qn.then ?_
    refine CodT.ret ?_
    refine Qn.ret_then ?_
    have hI := hI.drop
    have hI := hI.drop
    have e := someS h0
    subst e
    refine Qn.keep [4] (S' := [(4, .bool false)]) (by kernel_rfl) ?_
    exact post_ret (v := .bool false) (fun a ha => RunRes.run (vs := [.bool false]) (.tmp (t := 4) (by kernel_rfl) .nil) ha (by kernel_rfl)) ⟨rfl, hI⟩
  · rw [if_neg hb5] at h0
    refine CodT.no' (b := !y4) (by kernel_rfl) (by simpa using hb5) ?_
    refine CodT.skip ?_
    refine Qn.then ?_
    refine CodT.seq ?_
    refine CodT.regionL [0, 1, 2] (by kernel_rfl) ?_
    refine OpsT.cons (Does.yi (Yl.load (d := 13) (T := 23) (v := .agg (cA (Value.int .u8) a0).toArray) (by kernel_rfl) (ldBN ty23 (l := cA (Value.int .u8) a0) (o := 0) (cs := cA (Value.int .u8) a0) (pick2 _ _ _) ((cA_length _ _).trans hl_a0) (whole _ _ ((cA_length _ _).trans hl_a0)))) hI ?_)
    obtain ⟨y7, hc6, h0⟩ := bindS h0
    try dsimp only at h0
    refine OpsT.cons (Does.call (d := some 14) (n := 19) (vs := [.agg (cA (Value.int .u8) a0).toArray]) (by kernel_rfl) en19 (c19 w0 w _ _ hI a0 hl_a0 _ hc6) ?_)
    rintro e w ⟨rfl, hI⟩
    refine ⟨_, rfl, ?_⟩
    refine OpsT.pures (r := []) [2] [2, 3, 5, 6] (S' := [(2, .pointer (some ⟨b1, 0, none⟩)), (3, .pointer (some ⟨b2, 0, none⟩)), (5, .bool y4), (6, .string y7)]) (by kernel_rfl) ?_
    refine OpsT.done ?_
    refine Qn.then ?_
    refine CodT.seq ?_
    refine CodT.regionL [0, 1, 2] (by kernel_rfl) ?_
    refine OpsT.cons (Does.yi (Yl.load (d := 15) (T := 23) (v := .agg (cA (Value.int .u8) a1).toArray) (by kernel_rfl) (ldBN ty23 (l := cA (Value.int .u8) a1) (o := 0) (cs := cA (Value.int .u8) a1) (ent_refl _) ((cA_length _ _).trans hl_a1) (whole _ _ ((cA_length _ _).trans hl_a1)))) hI ?_)
    obtain ⟨y9, hc8, h0⟩ := bindS h0
    try dsimp only at h0
    refine OpsT.cons (Does.call (d := some 16) (n := 19) (vs := [.agg (cA (Value.int .u8) a1).toArray]) (by kernel_rfl) en19 (c19 w0 w _ _ hI a1 hl_a1 _ hc8) ?_)
    rintro e w ⟨rfl, hI⟩
    refine ⟨_, rfl, ?_⟩
    refine OpsT.pures (r := []) [2] [2, 3, 5, 6, 7] (S' := [(2, .pointer (some ⟨b1, 0, none⟩)), (3, .pointer (some ⟨b2, 0, none⟩)), (5, .bool y4), (6, .string y7), (7, .string y9)]) (by kernel_rfl) ?_
    refine OpsT.done ?_
    refine Qn.then ?_
    refine CodT.seq ?_
    refine CodT.seq ?_
    refine CodT.regionL [0] (by kernel_rfl) ?_
    refine OpsT.pures (r := []) [0] [2, 3, 5, 6, 7, 8] (S' := [(2, .pointer (some ⟨b1, 0, none⟩)), (3, .pointer (some ⟨b2, 0, none⟩)), (5, .bool y4), (6, .string y7), (7, .string y9), (8, .int .i64 0)]) (by kernel_rfl) ?_
    refine OpsT.done ?_
    refine Qn.then ?_
    obtain ⟨r1, h1, h0⟩ := bindS h0
    refine CodT.meet1 (fun a w => .inr () = r1 ∧ Fr 61 [(2, .pointer (some ⟨b1, 0, none⟩)), (3, .pointer (some ⟨b2, 0, none⟩)), (5, .bool y4), (6, .string y7), (7, .string y9)] a ∧ Inv w0 Z w (star (pt b2 (.cells (cA (Value.int .u8) a1).toArray 23 (0, 0))) (star (pt b1 (.cells (cA (Value.int .u8) a0).toArray 23 (0, 0))) A))) ?_ ?_
    ·
      refine CodT.block ?_
      refine (fun a ha => wp_loopN (fun k a w => ∃ (x10 : Int), law02_ShaText.l0 y7 k x10 = some r1 ∧ Fr 61 [(2, .pointer (some ⟨b1, 0, none⟩)), (3, .pointer (some ⟨b2, 0, none⟩)), (5, .bool y4), (6, .string y7), (7, .string y9), (8, .int .i64 x10)] a ∧ Inv w0 Z w (star (pt b2 (.cells (cA (Value.int .u8) a1).toArray 23 (0, 0))) (star (pt b1 (.cells (cA (Value.int .u8) a0).toArray 23 (0, 0))) A))) ?_ FU a w ⟨0, h1, ha.keep [2, 3, 5, 6, 7, 8] (by kernel_rfl), hI⟩)
      clear h1 hI
      rintro k a w ⟨x10, h1, ha, hI⟩
      rcases k with _ | k
      · cases h1
      simp only [law02_ShaText.l0] at h1
      refine CodT.of ?_ ha
      refine CodT.seq ?_
      refine CodT.seq ?_
      refine CodT.regionL [0, 1, 2, 3] (by kernel_rfl) ?_
      refine OpsT.pures (r := []) [0, 1, 2, 3] [2, 3, 5, 6, 7, 8, 20] (S' := [(2, .pointer (some ⟨b1, 0, none⟩)), (3, .pointer (some ⟨b2, 0, none⟩)), (5, .bool y4), (6, .string y7), (7, .string y9), (8, .int .i64 x10), (20, .bool (decide (x10 < (y7.size : Int))))]) (by kernel_rfl) ?_
      refine OpsT.done ?_
      refine Qn.then ?_
      by_cases hb11 : (decide (x10 < (y7.size : Int))) = true
      · rw [if_pos hb11] at h1
        refine CodT.yes' (b := decide (x10 < (y7.size : Int))) (by kernel_rfl) hb11 ?_
        refine CodT.skip ?_
        refine Qn.then ?_
        refine CodT.seq ?_
        refine CodT.block ?_
        refine CodT.seq ?_
        refine CodT.regionL [0, 1, 2, 3] (by kernel_rfl) ?_
        refine OpsT.pures (r := [2, 3]) [0, 1] [2, 3, 5, 6, 7, 8, 23, 24] (S' := [(2, .pointer (some ⟨b1, 0, none⟩)), (3, .pointer (some ⟨b2, 0, none⟩)), (5, .bool y4), (6, .string y7), (7, .string y9), (8, .int .i64 x10), (23, .string y7), (24, .int .i64 x10)]) (by kernel_rfl) ?_
        obtain ⟨hg12, h1⟩ := guardS h1
        refine OpsT.cons (Does.yi (Yl.indexStr (d := 25) (T := 9) (k := .i64) (j := x10) (s := y7) (by kernel_rfl) Go.Proofs.Try.underlying9 hg12.1 hg12.2) hI ?_)
        refine OpsT.pures (r := []) [3] [2, 3, 5, 6, 7, 8, 9] (S' := [(2, .pointer (some ⟨b1, 0, none⟩)), (3, .pointer (some ⟨b2, 0, none⟩)), (5, .bool y4), (6, .string y7), (7, .string y9), (8, .int .i64 x10), (9, .int .u8 (bt y7 x10))]) (by kernel_rfl) ?_
        refine OpsT.done ?_
        refine Qn.then ?_
        obtain ⟨r2, h2, h1⟩ := bindS h1
        refine CodT.meet (fun a w => ∃ (x13 : Bool), x13 = r2 ∧ Fr 61 [(2, .pointer (some ⟨b1, 0, none⟩)), (3, .pointer (some ⟨b2, 0, none⟩)), (5, .bool y4), (6, .string y7), (7, .string y9), (8, .int .i64 x10), (40, .bool x13)] a ∧ Inv w0 Z w (star (pt b2 (.cells (cA (Value.int .u8) a1).toArray 23 (0, 0))) (star (pt b1 (.cells (cA (Value.int .u8) a0).toArray 23 (0, 0))) A))) ?_ ?_
        ·
          refine CodT.regionL [0, 1, 2, 3, 4, 5, 6, 7, 8, 9, 10, 11, 12, 13, 14] (by kernel_rfl) ?_
          refine OpsT.pures (r := [3, 4, 5, 6, 7, 8, 9, 10, 11, 12, 13, 14]) [0, 1, 2] [2, 3, 5, 6, 7, 8, 9, 28] (S' := [(2, .pointer (some ⟨b1, 0, none⟩)), (3, .pointer (some ⟨b2, 0, none⟩)), (5, .bool y4), (6, .string y7), (7, .string y9), (8, .int .i64 x10), (9, .int .u8 (bt y7 x10)), (28, .bool (decide ((bt y7 x10) ≥ 48)))]) (by kernel_rfl) ?_
          by_cases hb14 : (decide ((bt y7 x10) ≥ 48)) = true
          · rw [if_pos hb14] at h2
            refine OpsT.keep [2, 3, 5, 6, 7, 8, 9, 28] (S' := [(2, .pointer (some ⟨b1, 0, none⟩)), (3, .pointer (some ⟨b2, 0, none⟩)), (5, .bool y4), (6, .string y7), (7, .string y9), (8, .int .i64 x10), (9, .int .u8 (bt y7 x10)), (28, .bool true)]) (by simp only [hb14]; kernel_rfl) ?_
            refine OpsT.pures (r := [7, 8, 9, 10, 11, 12, 13, 14]) [3, 4, 5, 6] [2, 3, 5, 6, 7, 8, 9, 32] (S' := [(2, .pointer (some ⟨b1, 0, none⟩)), (3, .pointer (some ⟨b2, 0, none⟩)), (5, .bool y4), (6, .string y7), (7, .string y9), (8, .int .i64 x10), (9, .int .u8 (bt y7 x10)), (32, .bool (decide ((bt y7 x10) ≤ 57)))]) (by kernel_rfl) ?_
            by_cases hb15 : (decide ((bt y7 x10) ≤ 57)) = true
            · rw [if_pos hb15] at h2
              refine OpsT.keep [2, 3, 5, 6, 7, 8, 9, 32] (S' := [(2, .pointer (some ⟨b1, 0, none⟩)), (3, .pointer (some ⟨b2, 0, none⟩)), (5, .bool y4), (6, .string y7), (7, .string y9), (8, .int .i64 x10), (9, .int .u8 (bt y7 x10)), (32, .bool true)]) (by simp only [hb15]; kernel_rfl) ?_
              refine OpsT.pures (r := []) [7, 8, 9, 10, 11, 12, 13, 14] [2, 3, 5, 6, 7, 8, 40] (S' := [(2, .pointer (some ⟨b1, 0, none⟩)), (3, .pointer (some ⟨b2, 0, none⟩)), (5, .bool y4), (6, .string y7), (7, .string y9), (8, .int .i64 x10), (40, .bool false)]) (by kernel_rfl) ?_
              refine OpsT.done ?_
              have e := someS h2
              subst e
              exact Qn.thenJ fun a ha => ⟨false, rfl, ha.keep [2, 3, 5, 6, 7, 8, 40] (by kernel_rfl), hI⟩
            · rw [if_neg hb15] at h2
              have hb15 : (decide ((bt y7 x10) ≤ 57)) = false := by simpa using hb15
              refine OpsT.keep [2, 3, 5, 6, 7, 8, 9, 32] (S' := [(2, .pointer (some ⟨b1, 0, none⟩)), (3, .pointer (some ⟨b2, 0, none⟩)), (5, .bool y4), (6, .string y7), (7, .string y9), (8, .int .i64 x10), (9, .int .u8 (bt y7 x10)), (32, .bool false)]) (by simp only [hb15]; kernel_rfl) ?_
              refine OpsT.pures (r := [10, 11, 12, 13, 14]) [7, 8, 9] [2, 3, 5, 6, 7, 8, 9, 32, 35] (S' := [(2, .pointer (some ⟨b1, 0, none⟩)), (3, .pointer (some ⟨b2, 0, none⟩)), (5, .bool y4), (6, .string y7), (7, .string y9), (8, .int .i64 x10), (9, .int .u8 (bt y7 x10)), (32, .bool false), (35, .bool (decide ((bt y7 x10) ≥ 97)))]) (by kernel_rfl) ?_
              by_cases hb16 : (decide ((bt y7 x10) ≥ 97)) = true
              · rw [if_pos hb16] at h2
                refine OpsT.keep [2, 3, 5, 6, 7, 8, 9, 32, 35] (S' := [(2, .pointer (some ⟨b1, 0, none⟩)), (3, .pointer (some ⟨b2, 0, none⟩)), (5, .bool y4), (6, .string y7), (7, .string y9), (8, .int .i64 x10), (9, .int .u8 (bt y7 x10)), (32, .bool false), (35, .bool true)]) (by simp only [hb16]; kernel_rfl) ?_
                refine OpsT.pures (r := []) [10, 11, 12, 13, 14] [2, 3, 5, 6, 7, 8, 40] (S' := [(2, .pointer (some ⟨b1, 0, none⟩)), (3, .pointer (some ⟨b2, 0, none⟩)), (5, .bool y4), (6, .string y7), (7, .string y9), (8, .int .i64 x10), (40, .bool (!(decide ((bt y7 x10) ≤ 102))))]) (by kernel_rfl) ?_
                refine OpsT.done ?_
                have e := someS h2
                subst e
                exact Qn.thenJ fun a ha => ⟨!(decide ((bt y7 x10) ≤ 102)), rfl, ha.keep [2, 3, 5, 6, 7, 8, 40] (by kernel_rfl), hI⟩
              · rw [if_neg hb16] at h2
                have hb16 : (decide ((bt y7 x10) ≥ 97)) = false := by simpa using hb16
                refine OpsT.keep [2, 3, 5, 6, 7, 8, 9, 32, 35] (S' := [(2, .pointer (some ⟨b1, 0, none⟩)), (3, .pointer (some ⟨b2, 0, none⟩)), (5, .bool y4), (6, .string y7), (7, .string y9), (8, .int .i64 x10), (9, .int .u8 (bt y7 x10)), (32, .bool false), (35, .bool false)]) (by simp only [hb16]; kernel_rfl) ?_
                refine OpsT.pures (r := []) [10, 11, 12, 13, 14] [2, 3, 5, 6, 7, 8, 40] (S' := [(2, .pointer (some ⟨b1, 0, none⟩)), (3, .pointer (some ⟨b2, 0, none⟩)), (5, .bool y4), (6, .string y7), (7, .string y9), (8, .int .i64 x10), (40, .bool true)]) (by kernel_rfl) ?_
                refine OpsT.done ?_
                have e := someS h2
                subst e
                exact Qn.thenJ fun a ha => ⟨true, rfl, ha.keep [2, 3, 5, 6, 7, 8, 40] (by kernel_rfl), hI⟩
          · rw [if_neg hb14] at h2
            have hb14 : (decide ((bt y7 x10) ≥ 48)) = false := by simpa using hb14
            refine OpsT.keep [2, 3, 5, 6, 7, 8, 9, 28] (S' := [(2, .pointer (some ⟨b1, 0, none⟩)), (3, .pointer (some ⟨b2, 0, none⟩)), (5, .bool y4), (6, .string y7), (7, .string y9), (8, .int .i64 x10), (9, .int .u8 (bt y7 x10)), (28, .bool false)]) (by simp only [hb14]; kernel_rfl) ?_
            refine OpsT.pures (r := [10, 11, 12, 13, 14]) [3, 4, 5, 6, 7, 8, 9] [2, 3, 5, 6, 7, 8, 9, 32, 35] (S' := [(2, .pointer (some ⟨b1, 0, none⟩)), (3, .pointer (some ⟨b2, 0, none⟩)), (5, .bool y4), (6, .string y7), (7, .string y9), (8, .int .i64 x10), (9, .int .u8 (bt y7 x10)), (32, .bool false), (35, .bool (decide ((bt y7 x10) ≥ 97)))]) (by kernel_rfl) ?_
            by_cases hb17 : (decide ((bt y7 x10) ≥ 97)) = true
            · rw [if_pos hb17] at h2
              refine OpsT.keep [2, 3, 5, 6, 7, 8, 9, 32, 35] (S' := [(2, .pointer (some ⟨b1, 0, none⟩)), (3, .pointer (some ⟨b2, 0, none⟩)), (5, .bool y4), (6, .string y7), (7, .string y9), (8, .int .i64 x10), (9, .int .u8 (bt y7 x10)), (32, .bool false), (35, .bool true)]) (by simp only [hb17]; kernel_rfl) ?_
              refine OpsT.pures (r := []) [10, 11, 12, 13, 14] [2, 3, 5, 6, 7, 8, 40] (S' := [(2, .pointer (some ⟨b1, 0, none⟩)), (3, .pointer (some ⟨b2, 0, none⟩)), (5, .bool y4), (6, .string y7), (7, .string y9), (8, .int .i64 x10), (40, .bool (!(decide ((bt y7 x10) ≤ 102))))]) (by kernel_rfl) ?_
              refine OpsT.done ?_
              have e := someS h2
              subst e
              exact Qn.thenJ fun a ha => ⟨!(decide ((bt y7 x10) ≤ 102)), rfl, ha.keep [2, 3, 5, 6, 7, 8, 40] (by kernel_rfl), hI⟩
            · rw [if_neg hb17] at h2
              have hb17 : (decide ((bt y7 x10) ≥ 97)) = false := by simpa using hb17
              refine OpsT.keep [2, 3, 5, 6, 7, 8, 9, 32, 35] (S' := [(2, .pointer (some ⟨b1, 0, none⟩)), (3, .pointer (some ⟨b2, 0, none⟩)), (5, .bool y4), (6, .string y7), (7, .string y9), (8, .int .i64 x10), (9, .int .u8 (bt y7 x10)), (32, .bool false), (35, .bool false)]) (by simp only [hb17]; kernel_rfl) ?_
              refine OpsT.pures (r := []) [10, 11, 12, 13, 14] [2, 3, 5, 6, 7, 8, 40] (S' := [(2, .pointer (some ⟨b1, 0, none⟩)), (3, .pointer (some ⟨b2, 0, none⟩)), (5, .bool y4), (6, .string y7), (7, .string y9), (8, .int .i64 x10), (40, .bool true)]) (by kernel_rfl) ?_
              refine OpsT.done ?_
              have e := someS h2
              subst e
              exact Qn.thenJ fun a ha => ⟨true, rfl, ha.keep [2, 3, 5, 6, 7, 8, 40] (by kernel_rfl), hI⟩
        ·
          rintro a w ⟨x13, rfl, ha, hI⟩
          try dsimp only at h1
          refine CodT.of ?_ ha
          by_cases hb18 : x13 = true
          · rw [if_pos hb18] at h1
            refine CodT.yes' (b := x13) (by kernel_rfl) hb18 ?_
            refine CodT.seq ?_
            refine CodT.regionL [0] (by kernel_rfl) ?_
            refine OpsT.pures (r := []) [0] [4] (S' := [(4, .bool false)]) (by kernel_rfl) ?_
            refine OpsT.done ?_
            refine Qn.then ?_
            refine CodT.ret ?_
            refine Qn.block_ret ?_
            refine Qn.ret_then ?_
            refine Qn.ret_then ?_
            refine Qn.block_ret ?_
            refine Qn.ret_then ?_
            refine Qn.ret_then ?_
            have hI := hI.drop
            have hI := hI.drop
            have e := someS h1
            subst e
            try dsimp only at h0
            have e := someS h0
            subst e
            refine Qn.keep [4] (S' := [(4, .bool false)]) (by kernel_rfl) ?_
            exact post_ret (v := .bool false) (fun a ha => RunRes.run (vs := [.bool false]) (.tmp (t := 4) (by kernel_rfl) .nil) ha (by kernel_rfl)) ⟨rfl, hI⟩
          · rw [if_neg hb18] at h1
            refine CodT.no' (b := x13) (by kernel_rfl) (by simpa using hb18) ?_
            refine CodT.skip ?_
            refine Qn.block_normal ?_
            refine Qn.then ?_
            refine CodT.regionL [0, 1, 2] (by kernel_rfl) ?_
            refine OpsT.pures (r := []) [0, 1, 2] [2, 3, 5, 6, 7, 8] (S' := [(2, .pointer (some ⟨b1, 0, none⟩)), (3, .pointer (some ⟨b2, 0, none⟩)), (5, .bool y4), (6, .string y7), (7, .string y9), (8, .int .i64 (wi64 (x10 + 1)))]) (by kernel_rfl) ?_
            refine OpsT.done ?_
            exact Qn.thenJ fun a ha => ⟨k, Nat.lt_succ_self k, wi64 (x10 + 1), h1, ha.keep [2, 3, 5, 6, 7, 8] (by kernel_rfl), hI⟩
      · rw [if_neg hb11] at h1
        refine CodT.no' (b := decide (x10 < (y7.size : Int))) (by kernel_rfl) (by simpa using hb11) ?_
        refine CodT.exit ?_
        refine Qn.exit_then ?_
        refine Qn.exit_then ?_
        refine Qn.block ?_
        have e := someS h1
        subst e
        exact Qn.thenJ fun a ha => ⟨rfl, ha.keep [2, 3, 5, 6, 7] (by kernel_rfl), hI⟩
    ·
      rintro a w ⟨rfl, ha, hI⟩
      try dsimp only at h0
      refine Qn.of ?_ ha
      refine Qn.then ?_
      obtain ⟨r1, h1, h0⟩ := bindS h0
      refine CodT.meet (fun a w => ∃ (x19 : Bool), x19 = r1 ∧ Fr 61 [(4, .bool x19)] a ∧ Inv w0 Z w A) ?_ ?_
      ·
        refine CodT.regionL [0, 1, 2, 3, 4, 5, 6, 7, 8, 9, 10, 11, 12, 13, 14, 15, 16, 17, 18, 19, 20] (by kernel_rfl) ?_
        refine OpsT.pures (r := [2, 3, 4, 5, 6, 7, 8, 9, 10, 11, 12, 13, 14, 15, 16, 17, 18, 19, 20]) [0, 1] [2, 3, 6, 7, 42] (S' := [(2, .pointer (some ⟨b1, 0, none⟩)), (3, .pointer (some ⟨b2, 0, none⟩)), (6, .string y7), (7, .string y9), (42, .bool y4)]) (by kernel_rfl) ?_
        by_cases hb20 : y4 = true
        · rw [if_pos hb20] at h1
          refine OpsT.keep [2, 3, 6, 7, 42] (S' := [(2, .pointer (some ⟨b1, 0, none⟩)), (3, .pointer (some ⟨b2, 0, none⟩)), (6, .string y7), (7, .string y9), (42, .bool true)]) (by simp only [hb20]; kernel_rfl) ?_
          refine OpsT.pures (r := [7, 8, 9, 10, 11, 12, 13, 14, 15, 16, 17, 18, 19, 20]) [2, 3, 4, 5, 6] [2, 3, 6, 7, 47] (S' := [(2, .pointer (some ⟨b1, 0, none⟩)), (3, .pointer (some ⟨b2, 0, none⟩)), (6, .string y7), (7, .string y9), (47, .bool ((y7.size : Int) == 64))]) (by kernel_rfl) ?_
          by_cases hb21 : ((y7.size : Int) == 64) = true
          · rw [if_pos hb21] at h1
            refine OpsT.keep [2, 3, 6, 7, 47] (S' := [(2, .pointer (some ⟨b1, 0, none⟩)), (3, .pointer (some ⟨b2, 0, none⟩)), (6, .string y7), (7, .string y9), (47, .bool true)]) (by simp only [hb21]; kernel_rfl) ?_
            refine OpsT.pures (r := [12, 13, 14, 15, 16, 17, 18, 19, 20]) [7, 8, 9, 10, 11] [2, 3, 6, 7, 52] (S' := [(2, .pointer (some ⟨b1, 0, none⟩)), (3, .pointer (some ⟨b2, 0, none⟩)), (6, .string y7), (7, .string y9), (52, .bool ((y9.size : Int) == 64))]) (by kernel_rfl) ?_
            by_cases hb22 : ((y9.size : Int) == 64) = true
            · rw [if_pos hb22] at h1
              refine OpsT.keep [2, 3, 6, 7, 52] (S' := [(2, .pointer (some ⟨b1, 0, none⟩)), (3, .pointer (some ⟨b2, 0, none⟩)), (6, .string y7), (7, .string y9), (52, .bool true)]) (by simp only [hb22]; kernel_rfl) ?_
              refine OpsT.pures (r := [15, 16, 17, 18, 19, 20]) [12, 13, 14] [2, 3, 52, 55] (S' := [(2, .pointer (some ⟨b1, 0, none⟩)), (3, .pointer (some ⟨b2, 0, none⟩)), (52, .bool true), (55, .bool (seq y7 y9))]) (by kernel_rfl) ?_
              refine OpsT.cons (Does.yi (Yl.load (d := 56) (T := 23) (v := .agg (cA (Value.int .u8) a0).toArray) (by kernel_rfl) (ldBN ty23 (l := cA (Value.int .u8) a0) (o := 0) (cs := cA (Value.int .u8) a0) (pick2 _ _ _) ((cA_length _ _).trans hl_a0) (whole _ _ ((cA_length _ _).trans hl_a0)))) hI ?_)
              refine OpsT.cons (Does.yi (Yl.load (d := 57) (T := 23) (v := .agg (cA (Value.int .u8) a1).toArray) (by kernel_rfl) (ldBN ty23 (l := cA (Value.int .u8) a1) (o := 0) (cs := cA (Value.int .u8) a1) (ent_refl _) ((cA_length _ _).trans hl_a1) (whole _ _ ((cA_length _ _).trans hl_a1)))) hI ?_)
              refine OpsT.cons (Does.yi (Yl.eqlA (k := .u8) (d := 58) (T := 23) (xs := a0) (ys := a1) (by kernel_rfl) Go.Proofs.Try.underlying23 (by kernel_rfl) Go.Proofs.Try.underlying5 ty5 hl_a0 hl_a1) hI ?_)
              refine OpsT.pures (r := []) [18, 19, 20] [4] (S' := [(4, .bool ((seq y7 y9) == (eqA a0 a1)))]) (by kernel_rfl) ?_
              refine OpsT.done ?_
              have hI := hI.drop
              have hI := hI.drop
              have e := someS h1
              subst e
              exact Qn.thenJ fun a ha => ⟨(seq y7 y9) == (eqA a0 a1), rfl, ha.keep [4] (by kernel_rfl), hI⟩
            · rw [if_neg hb22] at h1
              have hb22 : ((y9.size : Int) == 64) = false := by simpa using hb22
              refine OpsT.keep [2, 3, 6, 7, 52] (S' := [(2, .pointer (some ⟨b1, 0, none⟩)), (3, .pointer (some ⟨b2, 0, none⟩)), (6, .string y7), (7, .string y9), (52, .bool false)]) (by simp only [hb22]; kernel_rfl) ?_
              refine OpsT.pures (r := []) [12, 13, 14, 15, 16, 17, 18, 19, 20] [4] (S' := [(4, .bool false)]) (by kernel_rfl) ?_
              refine OpsT.done ?_
              have hI := hI.drop
              have hI := hI.drop
              have e := someS h1
              subst e
              exact Qn.thenJ fun a ha => ⟨false, rfl, ha.keep [4] (by kernel_rfl), hI⟩
          · rw [if_neg hb21] at h1
            have hb21 : ((y7.size : Int) == 64) = false := by simpa using hb21
            refine OpsT.keep [2, 3, 6, 7, 47] (S' := [(2, .pointer (some ⟨b1, 0, none⟩)), (3, .pointer (some ⟨b2, 0, none⟩)), (6, .string y7), (7, .string y9), (47, .bool false)]) (by simp only [hb21]; kernel_rfl) ?_
            refine OpsT.pures (r := []) [7, 8, 9, 10, 11, 12, 13, 14, 15, 16, 17, 18, 19, 20] [4] (S' := [(4, .bool false)]) (by kernel_rfl) ?_
            refine OpsT.done ?_
            have hI := hI.drop
            have hI := hI.drop
            have e := someS h1
            subst e
            exact Qn.thenJ fun a ha => ⟨false, rfl, ha.keep [4] (by kernel_rfl), hI⟩
        · rw [if_neg hb20] at h1
          have hb20 : y4 = false := by simpa using hb20
          refine OpsT.keep [2, 3, 6, 7, 42] (S' := [(2, .pointer (some ⟨b1, 0, none⟩)), (3, .pointer (some ⟨b2, 0, none⟩)), (6, .string y7), (7, .string y9), (42, .bool false)]) (by simp only [hb20]; kernel_rfl) ?_
          refine OpsT.pures (r := []) [2, 3, 4, 5, 6, 7, 8, 9, 10, 11, 12, 13, 14, 15, 16, 17, 18, 19, 20] [4] (S' := [(4, .bool false)]) (by kernel_rfl) ?_
          refine OpsT.done ?_
          have hI := hI.drop
          have hI := hI.drop
          have e := someS h1
          subst e
          exact Qn.thenJ fun a ha => ⟨false, rfl, ha.keep [4] (by kernel_rfl), hI⟩
      ·
        rintro a w ⟨x19, rfl, ha, hI⟩
        try dsimp only at h0
        refine CodT.of ?_ ha
        refine CodT.ret ?_
        have e := someS h0
        subst e
        refine Qn.keep [4] (S' := [(4, .bool x19)]) (by kernel_rfl) ?_
        exact post_ret (v := .bool x19) (fun a ha => RunRes.run (vs := [.bool x19]) (.tmp (t := 4) (by kernel_rfl) .nil) ha (by kernel_rfl)) ⟨rfl, hI⟩
end Go.Cen
