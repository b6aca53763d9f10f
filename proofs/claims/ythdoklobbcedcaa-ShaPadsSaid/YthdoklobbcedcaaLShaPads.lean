/- The walk of the law ShaPads, printed by a program of ours. -/
import Derived.Test.YthdoklobbcedcaaW1
set_option linter.unusedVariables false
set_option linter.unusedSimpArgs false
namespace Go.Cen
set_option maxRecDepth 100000 in
set_option maxHeartbeats 4000000 in
/-- cenotaph/cenotaphlaw02.ShaPads -/
theorem c4 (w0 w : World) (Z : Hp) (A : HP) (hI : Inv w0 Z w A) (a0 : ByteArray) (a1 : ByteArray) (r : Bool) (h0 : law02_ShaPads a0 a1 = some r) :
    Calls prog 4 #[.string a0, .string a1] w (fun e w' => e = .returned (.bool r) ∧ Inv w0 Z w' A) := by
  refine calls_intro (args := [.string a0, .string a1]) (fn := Go.Proofs.Try.f4) 71 Go.Proofs.Try.func4 (by rfl) Go.Proofs.Try.ntmps4 (by kernel_rfl) ?_
  unfold law02_ShaPads at h0
  refine CodT.seq ?_
  refine CodT.regionL [0] (by kernel_rfl) ?_
  refine OpsT.pures (r := []) [0] [0, 1] (S' := [(0, .string a0), (1, .string a1)]) (by kernel_rfl) ?_
  refine OpsT.done ?_
  refine Qn.then ?_
  refine CodT.seq ?_
  refine CodT.regionL [0, 1] (by kernel_rfl) ?_
  obtain ⟨y2, hc1, h0⟩ := bindS h0
  try dsimp only at h0
  refine OpsT.cons (Does.call (d := some 8) (n := 14) (vs := []) (by kernel_rfl) en14 (c14 w0 w _ _ hI  _ hc1) ?_)
  rintro e w ⟨rfl, hI⟩
  refine ⟨_, rfl, ?_⟩
  refine OpsT.pures (r := []) [1] [0, 1, 5] (S' := [(0, .string a0), (1, .string a1), (5, .bool y2)]) (by kernel_rfl) ?_
  refine OpsT.done ?_
  refine Qn.then ?_
  refine CodT.seq ?_
  refine CodT.seq ?_
  refine CodT.regionL [0, 1] (by kernel_rfl) ?_
  refine OpsT.pures (r := []) [0, 1] [0, 1, 5, 10] (S' := [(0, .string a0), (1, .string a1), (5, .bool y2), (10, .bool (!y2))]) (by kernel_rfl) ?_
  refine OpsT.done ?_
  refine Qn.then ?_
  by_cases hb3 : (!y2) = true
  · rw [if_pos hb3] at h0
    refine CodT.yes' (b := !y2) (by kernel_rfl) hb3 ?_
    refine CodT.seq ?_
    refine CodT.regionL [0] (by kernel_rfl) ?_
    refine OpsT.pures (r := []) [0] [4] (S' := [(4, .bool false)]) (by kernel_rfl) ?_
    refine OpsT.done ?_
    refine Qn.then ?_
    refine CodT.ret ?_
    refine Qn.ret_then ?_
    have e := someS h0
    subst e
    refine Qn.keep [4] (S' := [(4, .bool false)]) (by kernel_rfl) ?_
    exact post_ret (v := .bool false) (fun a ha => RunRes.run (vs := [.bool false]) (.tmp (t := 4) (by kernel_rfl) .nil) ha (by kernel_rfl)) ⟨rfl, hI⟩
  · rw [if_neg hb3] at h0
    refine CodT.no' (b := !y2) (by kernel_rfl) (by simpa using hb3) ?_
    refine CodT.skip ?_
    refine Qn.then ?_
    refine CodT.seq ?_
    obtain ⟨r1, h1, h0⟩ := bindS h0
    refine CodT.meet (fun a w => ∃ (x4 : Bool), x4 = r1 ∧ Fr 71 [(0, .string a0), (1, .string a1), (5, .bool y2), (18, .bool x4)] a ∧ Inv w0 Z w A) ?_ ?_
    ·
      refine CodT.regionL [0, 1, 2, 3, 4, 5, 6, 7] (by kernel_rfl) ?_
      refine OpsT.pures (r := [4, 5, 6, 7]) [0, 1, 2, 3] [0, 1, 5, 14] (S' := [(0, .string a0), (1, .string a1), (5, .bool y2), (14, .bool (decide ((a0.size : Int) > 2000)))]) (by kernel_rfl) ?_
      by_cases hb5 : (decide ((a0.size : Int) > 2000)) = true
      · rw [if_pos hb5] at h1
        refine OpsT.keep [0, 1, 5, 14] (S' := [(0, .string a0), (1, .string a1), (5, .bool y2), (14, .bool true)]) (by simp only [hb5]; kernel_rfl) ?_
        refine OpsT.pures (r := []) [4, 5, 6, 7] [0, 1, 5, 18] (S' := [(0, .string a0), (1, .string a1), (5, .bool y2), (18, .bool true)]) (by kernel_rfl) ?_
        refine OpsT.done ?_
        have e := someS h1
        subst e
        exact Qn.thenJ fun a ha => ⟨true, rfl, ha.keep [0, 1, 5, 18] (by kernel_rfl), hI⟩
      · rw [if_neg hb5] at h1
        have hb5 : (decide ((a0.size : Int) > 2000)) = false := by simpa using hb5
        refine OpsT.keep [0, 1, 5, 14] (S' := [(0, .string a0), (1, .string a1), (5, .bool y2), (14, .bool false)]) (by simp only [hb5]; kernel_rfl) ?_
        refine OpsT.pures (r := []) [4, 5, 6, 7] [0, 1, 5, 18] (S' := [(0, .string a0), (1, .string a1), (5, .bool y2), (18, .bool (decide ((a1.size : Int) > 2000)))]) (by kernel_rfl) ?_
        refine OpsT.done ?_
        have e := someS h1
        subst e
        exact Qn.thenJ fun a ha => ⟨decide ((a1.size : Int) > 2000), rfl, ha.keep [0, 1, 5, 18] (by kernel_rfl), hI⟩
    ·
      rintro a w ⟨x4, rfl, ha, hI⟩
      try dsimp only at h0
      refine CodT.of ?_ ha
      by_cases hb6 : x4 = true
      · rw [if_pos hb6] at h0
        refine CodT.yes' (b := x4) (by kernel_rfl) hb6 ?_
        refine CodT.seq ?_
        refine CodT.regionL [0, 1] (by kernel_rfl) ?_
        refine OpsT.pures (r := []) [0, 1] [4] (S' := [(4, .bool y2)]) (by kernel_rfl) ?_
        refine OpsT.done ?_
        refine Qn.then ?_
        refine CodT.ret ?_
        refine Qn.ret_then ?_
        have e := someS h0
        subst e
        refine Qn.keep [4] (S' := [(4, .bool y2)]) (by kernel_rfl) ?_
        exact post_ret (v := .bool y2) (fun a ha => RunRes.run (vs := [.bool y2]) (.tmp (t := 4) (by kernel_rfl) .nil) ha (by kernel_rfl)) ⟨rfl, hI⟩
      · rw [if_neg hb6] at h0
        refine CodT.no' (b := x4) (by kernel_rfl) (by simpa using hb6) ?_
        refine CodT.skip ?_
        refine Qn.then ?_
        refine CodT.seq ?_
        refine CodT.regionL [0, 1, 2] (by kernel_rfl) ?_
        refine OpsT.pures (r := [1, 2]) [0] [0, 1, 5, 20] (S' := [(0, .string a0), (1, .string a1), (5, .bool y2), (20, .string a0)]) (by kernel_rfl) ?_
        obtain ⟨y8, hc7, h0⟩ := bindS h0
        try dsimp only at h0
        refine OpsT.cons (Does.call (d := some 21) (n := 17) (vs := [.string a0]) (by kernel_rfl) en17 (c17 w0 w _ _ hI a0 _ hc7) ?_)
        rintro e w ⟨rfl, hI⟩
        refine ⟨_, rfl, ?_⟩
        refine OpsT.pures (r := []) [2] [0, 1, 5, 6] (S' := [(0, .string a0), (1, .string a1), (5, .bool y2), (6, .string y8)]) (by kernel_rfl) ?_
        refine OpsT.done ?_
        refine Qn.then ?_
        refine CodT.seq ?_
        refine CodT.regionL [0, 1, 2] (by kernel_rfl) ?_
        refine OpsT.pures (r := [1, 2]) [0] [0, 1, 5, 6, 22] (S' := [(0, .string a0), (1, .string a1), (5, .bool y2), (6, .string y8), (22, .string a1)]) (by kernel_rfl) ?_
        obtain ⟨y10, hc9, h0⟩ := bindS h0
        try dsimp only at h0
        refine OpsT.cons (Does.call (d := some 23) (n := 17) (vs := [.string a1]) (by kernel_rfl) en17 (c17 w0 w _ _ hI a1 _ hc9) ?_)
        rintro e w ⟨rfl, hI⟩
        refine ⟨_, rfl, ?_⟩
        refine OpsT.pures (r := []) [2] [0, 1, 5, 6, 7] (S' := [(0, .string a0), (1, .string a1), (5, .bool y2), (6, .string y8), (7, .string y10)]) (by kernel_rfl) ?_
        refine OpsT.done ?_
        refine Qn.then ?_
        obtain ⟨r1, h1, h0⟩ := bindS h0
        refine CodT.meet (fun a w => ∃ (x11 : Bool), x11 = r1 ∧ Fr 71 [(4, .bool x11)] a ∧ Inv w0 Z w A) ?_ ?_
        ·
          refine CodT.regionL [0, 1, 2, 3, 4, 5, 6, 7, 8, 9, 10, 11, 12, 13, 14, 15, 16, 17, 18, 19, 20, 21, 22, 23, 24, 25, 26, 27, 28, 29, 30, 31, 32, 33, 34, 35, 36, 37, 38, 39, 40, 41, 42, 43, 44, 45, 46, 47] (by kernel_rfl) ?_
          refine OpsT.pures (r := [2, 3, 4, 5, 6, 7, 8, 9, 10, 11, 12, 13, 14, 15, 16, 17, 18, 19, 20, 21, 22, 23, 24, 25, 26, 27, 28, 29, 30, 31, 32, 33, 34, 35, 36, 37, 38, 39, 40, 41, 42, 43, 44, 45, 46, 47]) [0, 1] [0, 1, 6, 7, 25] (S' := [(0, .string a0), (1, .string a1), (6, .string y8), (7, .string y10), (25, .bool y2)]) (by kernel_rfl) ?_
          by_cases hb12 : y2 = true
          · rw [if_pos hb12] at h1
            refine OpsT.keep [0, 1, 6, 7, 25] (S' := [(0, .string a0), (1, .string a1), (6, .string y8), (7, .string y10), (25, .bool true)]) (by simp only [hb12]; kernel_rfl) ?_
            refine OpsT.pures (r := [8, 9, 10, 11, 12, 13, 14, 15, 16, 17, 18, 19, 20, 21, 22, 23, 24, 25, 26, 27, 28, 29, 30, 31, 32, 33, 34, 35, 36, 37, 38, 39, 40, 41, 42, 43, 44, 45, 46, 47]) [2, 3, 4, 5, 6, 7] [0, 1, 6, 7, 31] (S' := [(0, .string a0), (1, .string a1), (6, .string y8), (7, .string y10), (31, .bool (((y8.size : Int).tmod 64) == 0))]) (by kernel_rfl) ?_
            by_cases hb13 : (((y8.size : Int).tmod 64) == 0) = true
            · rw [if_pos hb13] at h1
              refine OpsT.keep [0, 1, 6, 7, 31] (S' := [(0, .string a0), (1, .string a1), (6, .string y8), (7, .string y10), (31, .bool true)]) (by simp only [hb13]; kernel_rfl) ?_
              refine OpsT.pures (r := [16, 17, 18, 19, 20, 21, 22, 23, 24, 25, 26, 27, 28, 29, 30, 31, 32, 33, 34, 35, 36, 37, 38, 39, 40, 41, 42, 43, 44, 45, 46, 47]) [8, 9, 10, 11, 12, 13, 14, 15] [0, 1, 6, 7, 39] (S' := [(0, .string a0), (1, .string a1), (6, .string y8), (7, .string y10), (39, .bool (decide ((y8.size : Int) ≥ (wi64 ((a0.size : Int) + 9)))))]) (by kernel_rfl) ?_
              by_cases hb14 : (decide ((y8.size : Int) ≥ (wi64 ((a0.size : Int) + 9)))) = true
              · rw [if_pos hb14] at h1
                refine OpsT.keep [0, 1, 6, 7, 39] (S' := [(0, .string a0), (1, .string a1), (6, .string y8), (7, .string y10), (39, .bool true)]) (by simp only [hb14]; kernel_rfl) ?_
                refine OpsT.pures (r := [24, 25, 26, 27, 28, 29, 30, 31, 32, 33, 34, 35, 36, 37, 38, 39, 40, 41, 42, 43, 44, 45, 46, 47]) [16, 17, 18, 19, 20, 21, 22, 23] [0, 1, 6, 7, 47] (S' := [(0, .string a0), (1, .string a1), (6, .string y8), (7, .string y10), (47, .bool (decide ((y8.size : Int) < (wi64 ((a0.size : Int) + 73)))))]) (by kernel_rfl) ?_
                by_cases hb15 : (decide ((y8.size : Int) < (wi64 ((a0.size : Int) + 73)))) = true
                · rw [if_pos hb15] at h1
                  refine OpsT.keep [0, 1, 6, 7, 47] (S' := [(0, .string a0), (1, .string a1), (6, .string y8), (7, .string y10), (47, .bool true)]) (by simp only [hb15]; kernel_rfl) ?_
                  refine OpsT.pures (r := [27, 28, 29, 30, 31, 32, 33, 34, 35, 36, 37, 38, 39, 40, 41, 42, 43, 44, 45, 46, 47]) [24, 25, 26] [0, 1, 6, 7, 47, 48, 50] (S' := [(0, .string a0), (1, .string a1), (6, .string y8), (7, .string y10), (47, .bool true), (48, .string y8), (50, .int .i64 (a0.size : Int))]) (by kernel_rfl) ?_
                  obtain ⟨hg16, h1⟩ := guardS h1
                  refine OpsT.cons (Does.yi (Yl.sliceStr01 (d := 51) (T := 9) (s := y8) (hi := (a0.size : Int)) (by kernel_rfl) Go.Proofs.Try.underlying9 hg16) hI ?_)
                  refine OpsT.pures (r := [32, 33, 34, 35, 36, 37, 38, 39, 40, 41, 42, 43, 44, 45, 46, 47]) [28, 29, 30, 31] [0, 1, 6, 7, 55] (S' := [(0, .string a0), (1, .string a1), (6, .string y8), (7, .string y10), (55, .bool (seq (sx y8 0 (a0.size : Int)) a0))]) (by kernel_rfl) ?_
                  by_cases hb17 : (seq (sx y8 0 (a0.size : Int)) a0) = true
                  · rw [if_pos hb17] at h1
                    refine OpsT.keep [0, 1, 6, 7, 55] (S' := [(0, .string a0), (1, .string a1), (6, .string y8), (7, .string y10), (55, .bool true)]) (by simp only [hb17]; kernel_rfl) ?_
                    refine OpsT.pures (r := [35, 36, 37, 38, 39, 40, 41, 42, 43, 44, 45, 46, 47]) [32, 33, 34] [0, 1, 6, 7, 55, 56, 58] (S' := [(0, .string a0), (1, .string a1), (6, .string y8), (7, .string y10), (55, .bool true), (56, .string y8), (58, .int .i64 (a0.size : Int))]) (by kernel_rfl) ?_
                    obtain ⟨hg18, h1⟩ := guardS h1
                    refine OpsT.cons (Does.yi (Yl.indexStr (d := 59) (T := 9) (k := .i64) (j := (a0.size : Int)) (s := y8) (by kernel_rfl) Go.Proofs.Try.underlying9 hg18.1 hg18.2) hI ?_)
                    refine OpsT.pures (r := [39, 40, 41, 42, 43, 44, 45, 46, 47]) [36, 37, 38] [0, 1, 6, 7, 62] (S' := [(0, .string a0), (1, .string a1), (6, .string y8), (7, .string y10), (62, .bool ((bt y8 (a0.size : Int)) == 128))]) (by kernel_rfl) ?_
                    by_cases hb19 : ((bt y8 (a0.size : Int)) == 128) = true
                    · rw [if_pos hb19] at h1
                      refine OpsT.keep [0, 1, 6, 7, 62] (S' := [(0, .string a0), (1, .string a1), (6, .string y8), (7, .string y10), (62, .bool true)]) (by simp only [hb19]; kernel_rfl) ?_
                      refine OpsT.pures (r := []) [39, 40, 41, 42, 43, 44, 45, 46, 47] [4] (S' := [(4, .bool ((seq y8 y10) == (seq a0 a1)))]) (by kernel_rfl) ?_
                      refine OpsT.done ?_
                      have e := someS h1
                      subst e
                      exact Qn.thenJ fun a ha => ⟨(seq y8 y10) == (seq a0 a1), rfl, ha.keep [4] (by kernel_rfl), hI⟩
                    · rw [if_neg hb19] at h1
                      have hb19 : ((bt y8 (a0.size : Int)) == 128) = false := by simpa using hb19
                      refine OpsT.keep [0, 1, 6, 7, 62] (S' := [(0, .string a0), (1, .string a1), (6, .string y8), (7, .string y10), (62, .bool false)]) (by simp only [hb19]; kernel_rfl) ?_
                      refine OpsT.pures (r := []) [39, 40, 41, 42, 43, 44, 45, 46, 47] [4] (S' := [(4, .bool false)]) (by kernel_rfl) ?_
                      refine OpsT.done ?_
                      have e := someS h1
                      subst e
                      exact Qn.thenJ fun a ha => ⟨false, rfl, ha.keep [4] (by kernel_rfl), hI⟩
                  · rw [if_neg hb17] at h1
                    have hb17 : (seq (sx y8 0 (a0.size : Int)) a0) = false := by simpa using hb17
                    refine OpsT.keep [0, 1, 6, 7, 55] (S' := [(0, .string a0), (1, .string a1), (6, .string y8), (7, .string y10), (55, .bool false)]) (by simp only [hb17]; kernel_rfl) ?_
                    refine OpsT.pures (r := []) [32, 33, 34, 35, 36, 37, 38, 39, 40, 41, 42, 43, 44, 45, 46, 47] [4] (S' := [(4, .bool false)]) (by kernel_rfl) ?_
                    refine OpsT.done ?_
                    have e := someS h1
                    subst e
                    exact Qn.thenJ fun a ha => ⟨false, rfl, ha.keep [4] (by kernel_rfl), hI⟩
                · rw [if_neg hb15] at h1
                  have hb15 : (decide ((y8.size : Int) < (wi64 ((a0.size : Int) + 73)))) = false := by simpa using hb15
                  refine OpsT.keep [0, 1, 6, 7, 47] (S' := [(0, .string a0), (1, .string a1), (6, .string y8), (7, .string y10), (47, .bool false)]) (by simp only [hb15]; kernel_rfl) ?_
                  refine OpsT.pures (r := []) [24, 25, 26, 27, 28, 29, 30, 31, 32, 33, 34, 35, 36, 37, 38, 39, 40, 41, 42, 43, 44, 45, 46, 47] [4] (S' := [(4, .bool false)]) (by kernel_rfl) ?_
                  refine OpsT.done ?_
                  have e := someS h1
                  subst e
                  exact Qn.thenJ fun a ha => ⟨false, rfl, ha.keep [4] (by kernel_rfl), hI⟩
              · rw [if_neg hb14] at h1
                have hb14 : (decide ((y8.size : Int) ≥ (wi64 ((a0.size : Int) + 9)))) = false := by simpa using hb14
                refine OpsT.keep [0, 1, 6, 7, 39] (S' := [(0, .string a0), (1, .string a1), (6, .string y8), (7, .string y10), (39, .bool false)]) (by simp only [hb14]; kernel_rfl) ?_
                refine OpsT.pures (r := []) [16, 17, 18, 19, 20, 21, 22, 23, 24, 25, 26, 27, 28, 29, 30, 31, 32, 33, 34, 35, 36, 37, 38, 39, 40, 41, 42, 43, 44, 45, 46, 47] [4] (S' := [(4, .bool false)]) (by kernel_rfl) ?_
                refine OpsT.done ?_
                have e := someS h1
                subst e
                exact Qn.thenJ fun a ha => ⟨false, rfl, ha.keep [4] (by kernel_rfl), hI⟩
            · rw [if_neg hb13] at h1
              have hb13 : (((y8.size : Int).tmod 64) == 0) = false := by simpa using hb13
              refine OpsT.keep [0, 1, 6, 7, 31] (S' := [(0, .string a0), (1, .string a1), (6, .string y8), (7, .string y10), (31, .bool false)]) (by simp only [hb13]; kernel_rfl) ?_
              refine OpsT.pures (r := []) [8, 9, 10, 11, 12, 13, 14, 15, 16, 17, 18, 19, 20, 21, 22, 23, 24, 25, 26, 27, 28, 29, 30, 31, 32, 33, 34, 35, 36, 37, 38, 39, 40, 41, 42, 43, 44, 45, 46, 47] [4] (S' := [(4, .bool false)]) (by kernel_rfl) ?_
              refine OpsT.done ?_
              have e := someS h1
              subst e
              exact Qn.thenJ fun a ha => ⟨false, rfl, ha.keep [4] (by kernel_rfl), hI⟩
          · rw [if_neg hb12] at h1
            have hb12 : y2 = false := by simpa using hb12
            refine OpsT.keep [0, 1, 6, 7, 25] (S' := [(0, .string a0), (1, .string a1), (6, .string y8), (7, .string y10), (25, .bool false)]) (by simp only [hb12]; kernel_rfl) ?_
            refine OpsT.pures (r := []) [2, 3, 4, 5, 6, 7, 8, 9, 10, 11, 12, 13, 14, 15, 16, 17, 18, 19, 20, 21, 22, 23, 24, 25, 26, 27, 28, 29, 30, 31, 32, 33, 34, 35, 36, 37, 38, 39, 40, 41, 42, 43, 44, 45, 46, 47] [4] (S' := [(4, .bool false)]) (by kernel_rfl) ?_
            refine OpsT.done ?_
            have e := someS h1
            subst e
            exact Qn.thenJ fun a ha => ⟨false, rfl, ha.keep [4] (by kernel_rfl), hI⟩
        ·
          rintro a w ⟨x11, rfl, ha, hI⟩
          try dsimp only at h0
          refine CodT.of ?_ ha
          refine CodT.ret ?_
          have e := someS h0
          subst e
          refine Qn.keep [4] (S' := [(4, .bool x11)]) (by kernel_rfl) ?_
          exact post_ret (v := .bool x11) (fun a ha => RunRes.run (vs := [.bool x11]) (.tmp (t := 4) (by kernel_rfl) .nil) ha (by kernel_rfl)) ⟨rfl, hI⟩
end Go.Cen
