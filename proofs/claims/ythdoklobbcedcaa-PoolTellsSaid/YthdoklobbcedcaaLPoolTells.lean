/- The walk of the law PoolTells, printed by a program of ours. -/
import Derived.Test.YthdoklobbcedcaaWq2
set_option linter.unusedVariables false
set_option linter.unusedSimpArgs false
namespace Go.Cen
set_option maxRecDepth 100000 in
set_option maxHeartbeats 4000000 in
/-- cenotaph/cenotaphlaw17.PoolTells -/
theorem c9 (w0 w : World) (Z : Hp) (A : HP)  (hI : Inv w0 Z w A) (A_a0 : Option Addr) (c_a0 : Nat) (a0 : (List PoolUse)) (hr_a0 : RdS Z c_PoolUse 5 A_a0 c_a0 a0) (a1 : Int) (r : Bool) (h0 : law17_PoolTells a0 a1 = some r) :
    Calls prog 9 #[.slice A_a0 a0.length c_a0, .int .i64 a1] w (fun e w' => e = .returned (.bool r) ∧ Inv w0 Z w' A) := by
  refine calls_intro (args := [.slice A_a0 a0.length c_a0, .int .i64 a1]) (fn := Go.Proofs.Try.f9) 62 Go.Proofs.Try.func9 (by rfl) Go.Proofs.Try.ntmps9 (by kernel_rfl) ?_
  unfold law17_PoolTells at h0
  refine CodT.seq ?_
  refine CodT.regionL [0] (by kernel_rfl) ?_
  refine OpsT.pures (r := []) [0] [0, 1] (S' := [(0, .slice A_a0 a0.length c_a0), (1, .int .i64 a1)]) (by kernel_rfl) ?_
  refine OpsT.done ?_
  refine Qn.then ?_
  refine CodT.seq ?_
  refine CodT.regionL [0, 1] (by kernel_rfl) ?_
  obtain ⟨y2, hc1, h0⟩ := bindS h0
  try dsimp only at h0
  refine OpsT.cons (Does.call (d := some 8) (n := 24) (vs := []) (by kernel_rfl) en24 (c24 w0 w _ _ hI _ hc1) ?_)
  rintro e w ⟨rfl, hI⟩
  refine ⟨_, rfl, ?_⟩
  refine OpsT.pures (r := []) [1] [0, 1, 5] (S' := [(0, .slice A_a0 a0.length c_a0), (1, .int .i64 a1), (5, .bool y2)]) (by kernel_rfl) ?_
  refine OpsT.done ?_
  refine Qn.then ?_
  refine CodT.seq ?_
  refine CodT.seq ?_
  refine CodT.regionL [0, 1] (by kernel_rfl) ?_
  refine OpsT.pures (r := []) [0, 1] [0, 1, 5, 10] (S' := [(0, .slice A_a0 a0.length c_a0), (1, .int .i64 a1), (5, .bool y2), (10, .bool (!y2))]) (by kernel_rfl) ?_
  refine OpsT.done ?_
  refine Qn.then ?_
  by_cases hb3 : (!y2) = true
  · rw [if_pos hb3] at h0
    refine CodT.yes' (b := !y2) (by kernel_rfl) hb3 ?_
    refine CodT.seq ?_
    refine CodT.regionL [0] (by kernel_rfl) ?_
    refine OpsT.pures (r := []) [0] [4] (S' := [(4, .bool false)]) (by kernel_rfl) ?_
    refine OpsT.done ?_
    refine Qn.then ?_
    refine CodT.ret ?_
    refine Qn.ret_then ?_
    have e := someS h0
    subst e
    refine Qn.keep [4] (S' := [(4, .bool false)]) (by kernel_rfl) ?_
    exact post_ret (v := .bool false) (fun a ha => RunRes.run (vs := [.bool false]) (.tmp (t := 4) (by kernel_rfl) .nil) ha (by kernel_rfl)) ⟨rfl, hI⟩
  · rw [if_neg hb3] at h0
    refine CodT.no' (b := !y2) (by kernel_rfl) (by simpa using hb3) ?_
    refine CodT.skip ?_
    refine Qn.then ?_
    refine CodT.seq ?_
    refine CodT.regionL [0, 1, 2] (by kernel_rfl) ?_
    refine OpsT.pures (r := [1, 2]) [0] [0, 1, 5, 11] (S' := [(0, .slice A_a0 a0.length c_a0), (1, .int .i64 a1), (5, .bool y2), (11, .slice A_a0 a0.length c_a0)]) (by kernel_rfl) ?_
    obtain ⟨y5, hc4, h0⟩ := bindS h0
    try dsimp only at h0
    refine OpsT.cons (Does.call (d := some 12) (n := 25) (vs := [.slice A_a0 a0.length c_a0]) (by kernel_rfl) en25 (c25 w0 w _ _ hI A_a0 c_a0 a0 hr_a0 _ hc4) ?_)
    rintro e w ⟨rfl, hI⟩
    refine ⟨_, rfl, ?_⟩
    refine OpsT.pures (r := []) [2] [0, 1, 5, 6] (S' := [(0, .slice A_a0 a0.length c_a0), (1, .int .i64 a1), (5, .bool y2), (6, .bool y5)]) (by kernel_rfl) ?_
    refine OpsT.done ?_
    refine Qn.then ?_
    refine CodT.seq ?_
    obtain ⟨r1, h1, h0⟩ := bindS h0
    refine CodT.meet (fun a w => ∃ (x6 : Bool), x6 = r1 ∧ Fr 62 [(0, .slice A_a0 a0.length c_a0), (1, .int .i64 a1), (5, .bool y2), (18, .bool x6)] a ∧ Inv w0 Z w A) ?_ ?_
    ·
      refine CodT.regionL [0, 1, 2, 3, 4, 5] (by kernel_rfl) ?_
      refine OpsT.pures (r := [3, 4, 5]) [0, 1, 2] [0, 1, 5, 15] (S' := [(0, .slice A_a0 a0.length c_a0), (1, .int .i64 a1), (5, .bool y2), (15, .bool (!y5))]) (by kernel_rfl) ?_
      by_cases hb7 : (!y5) = true
      · rw [if_pos hb7] at h1
        refine OpsT.keep [0, 1, 5, 15] (S' := [(0, .slice A_a0 a0.length c_a0), (1, .int .i64 a1), (5, .bool y2), (15, .bool true)]) (by simp only [hb7]; kernel_rfl) ?_
        refine OpsT.pures (r := []) [3, 4, 5] [0, 1, 5, 18] (S' := [(0, .slice A_a0 a0.length c_a0), (1, .int .i64 a1), (5, .bool y2), (18, .bool true)]) (by kernel_rfl) ?_
        refine OpsT.done ?_
        have e := someS h1
        subst e
        exact Qn.thenJ fun a ha => ⟨true, rfl, ha.keep [0, 1, 5, 18] (by kernel_rfl), hI⟩
      · rw [if_neg hb7] at h1
        have hb7 : (!y5) = false := by simpa using hb7
        refine OpsT.keep [0, 1, 5, 15] (S' := [(0, .slice A_a0 a0.length c_a0), (1, .int .i64 a1), (5, .bool y2), (15, .bool false)]) (by simp only [hb7]; kernel_rfl) ?_
        refine OpsT.pures (r := []) [3, 4, 5] [0, 1, 5, 18] (S' := [(0, .slice A_a0 a0.length c_a0), (1, .int .i64 a1), (5, .bool y2), (18, .bool (decide (a1 > 1099511627776)))]) (by kernel_rfl) ?_
        refine OpsT.done ?_
        have e := someS h1
        subst e
        exact Qn.thenJ fun a ha => ⟨decide (a1 > 1099511627776), rfl, ha.keep [0, 1, 5, 18] (by kernel_rfl), hI⟩
    ·
      rintro a w ⟨x6, rfl, ha, hI⟩
      try dsimp only at h0
      refine CodT.of ?_ ha
      by_cases hb8 : x6 = true
      · rw [if_pos hb8] at h0
        refine CodT.yes' (b := x6) (by kernel_rfl) hb8 ?_
        refine CodT.seq ?_
        refine CodT.regionL [0, 1] (by kernel_rfl) ?_
        refine OpsT.pures (r := []) [0, 1] [4] (S' := [(4, .bool y2)]) (by kernel_rfl) ?_
        refine OpsT.done ?_
        refine Qn.then ?_
        refine CodT.ret ?_
        refine Qn.ret_then ?_
        have e := someS h0
        subst e
        refine Qn.keep [4] (S' := [(4, .bool y2)]) (by kernel_rfl) ?_
        exact post_ret (v := .bool y2) (fun a ha => RunRes.run (vs := [.bool y2]) (.tmp (t := 4) (by kernel_rfl) .nil) ha (by kernel_rfl)) ⟨rfl, hI⟩
      · rw [if_neg hb8] at h0
        refine CodT.no' (b := x6) (by kernel_rfl) (by simpa using hb8) ?_
        refine CodT.skip ?_
        refine Qn.then ?_
        refine CodT.seq ?_
        refine CodT.regionL [0, 1, 2] (by kernel_rfl) ?_
        refine OpsT.pures (r := [1, 2]) [0] [0, 1, 5, 20] (S' := [(0, .slice A_a0 a0.length c_a0), (1, .int .i64 a1), (5, .bool y2), (20, .slice A_a0 a0.length c_a0)]) (by kernel_rfl) ?_
        obtain ⟨y10, hc9, h0⟩ := bindS h0
        try dsimp only at h0
        refine OpsT.cons (Does.call (d := some 21) (n := 26) (vs := [.slice A_a0 a0.length c_a0]) (by kernel_rfl) en26 (c26 w0 w _ _ hI A_a0 c_a0 a0 hr_a0 _ hc9) ?_)
        rintro e w ⟨A11, cp12, rfl, hI⟩
        refine ⟨_, rfl, ?_⟩
        refine OpsT.pures (r := []) [2] [0, 1, 5, 7] (S' := [(0, .slice A_a0 a0.length c_a0), (1, .int .i64 a1), (5, .bool y2), (7, .slice A11 y10.length cp12)]) (by kernel_rfl) ?_
        refine OpsT.done ?_
        refine Qn.then ?_
        obtain ⟨r1, h1, h0⟩ := bindS h0
        refine CodT.meet (fun a w => ∃ (x15 : Bool) (Z13 : Hp), x15 = r1 ∧ Fr 62 [(4, .bool x15)] a ∧ Inv w0 Z13 w A ∧ Z.le Z13) ?_ ?_
        ·
          refine CodT.regionL [0, 1, 2, 3, 4, 5, 6, 7, 8, 9, 10, 11, 12, 13, 14, 15, 16, 17, 18, 19, 20, 21, 22, 23, 24, 25, 26, 27, 28, 29, 30, 31, 32, 33, 34, 35, 36, 37, 38, 39, 40] (by kernel_rfl) ?_
          refine OpsT.pures (r := [2, 3, 4, 5, 6, 7, 8, 9, 10, 11, 12, 13, 14, 15, 16, 17, 18, 19, 20, 21, 22, 23, 24, 25, 26, 27, 28, 29, 30, 31, 32, 33, 34, 35, 36, 37, 38, 39, 40]) [0, 1] [0, 1, 7, 23] (S' := [(0, .slice A_a0 a0.length c_a0), (1, .int .i64 a1), (7, .slice A11 y10.length cp12), (23, .bool y2)]) (by kernel_rfl) ?_
          by_cases hb16 : y2 = true
          · rw [if_pos hb16] at h1
            refine OpsT.keep [0, 1, 7, 23] (S' := [(0, .slice A_a0 a0.length c_a0), (1, .int .i64 a1), (7, .slice A11 y10.length cp12), (23, .bool true)]) (by simp only [hb16]; kernel_rfl) ?_
            refine OpsT.pures (r := [3, 4, 5, 6, 7, 8, 9, 10, 11, 12, 13, 14, 15, 16, 17, 18, 19, 20, 21, 22, 23, 24, 25, 26, 27, 28, 29, 30, 31, 32, 33, 34, 35, 36, 37, 38, 39, 40]) [2] [0, 1, 7, 23, 24] (S' := [(0, .slice A_a0 a0.length c_a0), (1, .int .i64 a1), (7, .slice A11 y10.length cp12), (23, .bool true), (24, .slice A_a0 a0.length c_a0)]) (by kernel_rfl) ?_
            obtain ⟨y18, hc17, h1⟩ := bindS h1
            try dsimp only at h1
            refine OpsT.cons (Does.call (d := some 25) (n := 28) (vs := [.slice A_a0 a0.length c_a0]) (by kernel_rfl) en28 (c28 w0 w _ _ hI A_a0 c_a0 a0 hr_a0 _ hc17) ?_)
            rintro e w ⟨A19, cp20, rfl, hI⟩
            refine ⟨_, rfl, ?_⟩
            refine OpsT.pures (r := [5, 6, 7, 8, 9, 10, 11, 12, 13, 14, 15, 16, 17, 18, 19, 20, 21, 22, 23, 24, 25, 26, 27, 28, 29, 30, 31, 32, 33, 34, 35, 36, 37, 38, 39, 40]) [4] [0, 1, 7, 23, 25, 26] (S' := [(0, .slice A_a0 a0.length c_a0), (1, .int .i64 a1), (7, .slice A11 y10.length cp12), (23, .bool true), (25, .slice A19 y18.length cp20), (26, .slice A11 y10.length cp12)]) (by kernel_rfl) ?_
            have hI := hI.mono (pick2 _ _ _)
            obtain ⟨Z21, hle22, hr23, hI⟩ := ownS_freeze hI
            obtain ⟨y25, hc24, h1⟩ := bindS h1
            try dsimp only at h1
            refine OpsT.cons (Does.call (d := some 27) (n := 29) (vs := [.slice A11 y10.length cp12]) (by kernel_rfl) en29 (c29 w0 w _ _ hI A11 cp12 y10 hr23 _ hc24) ?_)
            rintro e w ⟨A26, cp27, rfl, hI⟩
            refine ⟨_, rfl, ?_⟩
            have hI := hI.mono (pick2 _ _ _)
            obtain ⟨Z28, hle29, hr30, hI⟩ := ownS_freeze hI
            obtain ⟨Z31, hle32, hr33, hI⟩ := ownS_freeze hI
            obtain ⟨y35, hc34, h1⟩ := bindS h1
            try dsimp only at h1
            refine OpsT.cons (Does.call (d := some 28) (n := 27) (vs := [.slice A19 y18.length cp20, .slice A26 y25.length cp27]) (by kernel_rfl) en27 (c27 w0 w _ _ hI A19 cp20 y18 (hr30.mono hle32) A26 cp27 y25 hr33 _ hc34) ?_)
            rintro e w ⟨rfl, hI⟩
            refine ⟨_, rfl, ?_⟩
            refine OpsT.pures (r := [9, 10, 11, 12, 13, 14, 15, 16, 17, 18, 19, 20, 21, 22, 23, 24, 25, 26, 27, 28, 29, 30, 31, 32, 33, 34, 35, 36, 37, 38, 39, 40]) [7, 8] [0, 1, 7, 30] (S' := [(0, .slice A_a0 a0.length c_a0), (1, .int .i64 a1), (7, .slice A11 y10.length cp12), (30, .bool y35)]) (by kernel_rfl) ?_
            by_cases hb36 : y35 = true
            · rw [if_pos hb36] at h1
              refine OpsT.keep [0, 1, 7, 30] (S' := [(0, .slice A_a0 a0.length c_a0), (1, .int .i64 a1), (7, .slice A11 y10.length cp12), (30, .bool true)]) (by simp only [hb36]; kernel_rfl) ?_
              refine OpsT.pures (r := [10, 11, 12, 13, 14, 15, 16, 17, 18, 19, 20, 21, 22, 23, 24, 25, 26, 27, 28, 29, 30, 31, 32, 33, 34, 35, 36, 37, 38, 39, 40]) [9] [0, 1, 7, 30, 31] (S' := [(0, .slice A_a0 a0.length c_a0), (1, .int .i64 a1), (7, .slice A11 y10.length cp12), (30, .bool true), (31, .slice A_a0 a0.length c_a0)]) (by kernel_rfl) ?_
              obtain ⟨y38, hc37, h1⟩ := bindS h1
              try dsimp only at h1
              refine OpsT.cons (Does.call (d := some 32) (n := 30) (vs := [.slice A_a0 a0.length c_a0]) (by kernel_rfl) en30 (c30 w0 w _ _ hI A_a0 c_a0 a0 (hr_a0.mono (Hp.le_trans (Hp.le_trans hle22 hle29) hle32)) _ hc37) ?_)
              rintro e w ⟨rfl, hI⟩
              refine ⟨_, rfl, ?_⟩
              refine OpsT.pures (r := [12, 13, 14, 15, 16, 17, 18, 19, 20, 21, 22, 23, 24, 25, 26, 27, 28, 29, 30, 31, 32, 33, 34, 35, 36, 37, 38, 39, 40]) [11] [0, 1, 7, 30, 32, 33] (S' := [(0, .slice A_a0 a0.length c_a0), (1, .int .i64 a1), (7, .slice A11 y10.length cp12), (30, .bool true), (32, .int .i64 y38), (33, .slice A11 y10.length cp12)]) (by kernel_rfl) ?_
              obtain ⟨y40, hc39, h1⟩ := bindS h1
              try dsimp only at h1
              refine OpsT.cons (Does.call (d := some 34) (n := 31) (vs := [.slice A11 y10.length cp12]) (by kernel_rfl) en31 (c31 w0 w _ _ hI A11 cp12 y10 (hr23.mono (Hp.le_trans hle29 hle32)) _ hc39) ?_)
              rintro e w ⟨rfl, hI⟩
              refine ⟨_, rfl, ?_⟩
              refine OpsT.pures (r := [16, 17, 18, 19, 20, 21, 22, 23, 24, 25, 26, 27, 28, 29, 30, 31, 32, 33, 34, 35, 36, 37, 38, 39, 40]) [13, 14, 15] [0, 1, 7, 37] (S' := [(0, .slice A_a0 a0.length c_a0), (1, .int .i64 a1), (7, .slice A11 y10.length cp12), (37, .bool (y38 == y40))]) (by kernel_rfl) ?_
              by_cases hb41 : (y38 == y40) = true
              · rw [if_pos hb41] at h1
                refine OpsT.keep [0, 1, 7, 37] (S' := [(0, .slice A_a0 a0.length c_a0), (1, .int .i64 a1), (7, .slice A11 y10.length cp12), (37, .bool true)]) (by simp only [hb41]; kernel_rfl) ?_
                refine OpsT.pures (r := [18, 19, 20, 21, 22, 23, 24, 25, 26, 27, 28, 29, 30, 31, 32, 33, 34, 35, 36, 37, 38, 39, 40]) [16, 17] [0, 1, 7, 37, 38, 39] (S' := [(0, .slice A_a0 a0.length c_a0), (1, .int .i64 a1), (7, .slice A11 y10.length cp12), (37, .bool true), (38, .slice A_a0 a0.length c_a0), (39, .int .i64 a1)]) (by kernel_rfl) ?_
                obtain ⟨y43, hc42, h1⟩ := bindS h1
                try dsimp only at h1
                refine OpsT.cons (Does.call (d := some 40) (n := 32) (vs := [.slice A_a0 a0.length c_a0, .int .i64 a1]) (by kernel_rfl) en32 (c32 w0 w _ _ hI A_a0 c_a0 a0 (hr_a0.mono (Hp.le_trans (Hp.le_trans hle22 hle29) hle32)) a1 _ hc42) ?_)
                rintro e w ⟨rfl, hI⟩
                refine ⟨_, rfl, ?_⟩
                refine OpsT.pures (r := [21, 22, 23, 24, 25, 26, 27, 28, 29, 30, 31, 32, 33, 34, 35, 36, 37, 38, 39, 40]) [19, 20] [0, 1, 7, 37, 40, 41, 42] (S' := [(0, .slice A_a0 a0.length c_a0), (1, .int .i64 a1), (7, .slice A11 y10.length cp12), (37, .bool true), (40, .int .i64 y43), (41, .slice A11 y10.length cp12), (42, .int .i64 a1)]) (by kernel_rfl) ?_
                obtain ⟨y45, hc44, h1⟩ := bindS h1
                try dsimp only at h1
                refine OpsT.cons (Does.call (d := some 43) (n := 33) (vs := [.slice A11 y10.length cp12, .int .i64 a1]) (by kernel_rfl) en33 (c33 w0 w _ _ hI A11 cp12 y10 (hr23.mono (Hp.le_trans hle29 hle32)) a1 _ hc44) ?_)
                rintro e w ⟨rfl, hI⟩
                refine ⟨_, rfl, ?_⟩
                refine OpsT.pures (r := [25, 26, 27, 28, 29, 30, 31, 32, 33, 34, 35, 36, 37, 38, 39, 40]) [22, 23, 24] [0, 1, 7, 46] (S' := [(0, .slice A_a0 a0.length c_a0), (1, .int .i64 a1), (7, .slice A11 y10.length cp12), (46, .bool (y43 == y45))]) (by kernel_rfl) ?_
                by_cases hb46 : (y43 == y45) = true
                · rw [if_pos hb46] at h1
                  refine OpsT.keep [0, 1, 7, 46] (S' := [(0, .slice A_a0 a0.length c_a0), (1, .int .i64 a1), (7, .slice A11 y10.length cp12), (46, .bool true)]) (by simp only [hb46]; kernel_rfl) ?_
                  refine OpsT.pures (r := [27, 28, 29, 30, 31, 32, 33, 34, 35, 36, 37, 38, 39, 40]) [25, 26] [0, 1, 7, 46, 47, 48] (S' := [(0, .slice A_a0 a0.length c_a0), (1, .int .i64 a1), (7, .slice A11 y10.length cp12), (46, .bool true), (47, .slice A_a0 a0.length c_a0), (48, .int .i64 a1)]) (by kernel_rfl) ?_
                  obtain ⟨y48, hc47, h1⟩ := bindS h1
                  try dsimp only at h1
                  refine OpsT.cons (Does.call (d := some 49) (n := 34) (vs := [.slice A_a0 a0.length c_a0, .int .i64 a1]) (by kernel_rfl) en34 (c34 w0 w _ _ hI A_a0 c_a0 a0 (hr_a0.mono (Hp.le_trans (Hp.le_trans hle22 hle29) hle32)) a1 _ hc47) ?_)
                  rintro e w ⟨rfl, hI⟩
                  refine ⟨_, rfl, ?_⟩
                  refine OpsT.pures (r := [30, 31, 32, 33, 34, 35, 36, 37, 38, 39, 40]) [28, 29] [0, 7, 46, 49, 50, 51] (S' := [(0, .slice A_a0 a0.length c_a0), (7, .slice A11 y10.length cp12), (46, .bool true), (49, .int .i64 y48), (50, .slice A11 y10.length cp12), (51, .int .i64 a1)]) (by kernel_rfl) ?_
                  obtain ⟨y50, hc49, h1⟩ := bindS h1
                  try dsimp only at h1
                  refine OpsT.cons (Does.call (d := some 52) (n := 35) (vs := [.slice A11 y10.length cp12, .int .i64 a1]) (by kernel_rfl) en35 (c35 w0 w _ _ hI A11 cp12 y10 (hr23.mono (Hp.le_trans hle29 hle32)) a1 _ hc49) ?_)
                  rintro e w ⟨rfl, hI⟩
                  refine ⟨_, rfl, ?_⟩
                  refine OpsT.pures (r := [34, 35, 36, 37, 38, 39, 40]) [31, 32, 33] [0, 7, 55] (S' := [(0, .slice A_a0 a0.length c_a0), (7, .slice A11 y10.length cp12), (55, .bool (y48 == y50))]) (by kernel_rfl) ?_
                  by_cases hb51 : (y48 == y50) = true
                  · rw [if_pos hb51] at h1
                    refine OpsT.keep [0, 7, 55] (S' := [(0, .slice A_a0 a0.length c_a0), (7, .slice A11 y10.length cp12), (55, .bool true)]) (by simp only [hb51]; kernel_rfl) ?_
                    refine OpsT.pures (r := [35, 36, 37, 38, 39, 40]) [34] [7, 55, 56] (S' := [(7, .slice A11 y10.length cp12), (55, .bool true), (56, .slice A_a0 a0.length c_a0)]) (by kernel_rfl) ?_
                    obtain ⟨y53, hc52, h1⟩ := bindS h1
                    try dsimp only at h1
                    refine OpsT.cons (Does.call (d := some 57) (n := 36) (vs := [.slice A_a0 a0.length c_a0]) (by kernel_rfl) en36 (c36 w0 w _ _ hI A_a0 c_a0 a0 (hr_a0.mono (Hp.le_trans (Hp.le_trans hle22 hle29) hle32)) _ hc52) ?_)
                    rintro e w ⟨rfl, hI⟩
                    refine ⟨_, rfl, ?_⟩
                    refine OpsT.pures (r := [37, 38, 39, 40]) [36] [55, 57, 58] (S' := [(55, .bool true), (57, .int .i64 y53), (58, .slice A11 y10.length cp12)]) (by kernel_rfl) ?_
                    obtain ⟨y55, hc54, h1⟩ := bindS h1
                    try dsimp only at h1
                    refine OpsT.cons (Does.call (d := some 59) (n := 37) (vs := [.slice A11 y10.length cp12]) (by kernel_rfl) en37 (c37 w0 w _ _ hI A11 cp12 y10 (hr23.mono (Hp.le_trans hle29 hle32)) _ hc54) ?_)
                    rintro e w ⟨rfl, hI⟩
                    refine ⟨_, rfl, ?_⟩
                    refine OpsT.pures (r := []) [38, 39, 40] [4] (S' := [(4, .bool (y53 == y55))]) (by kernel_rfl) ?_
                    refine OpsT.done ?_
                    have e := someS h1
                    subst e
                    exact Qn.thenJ fun a ha => ⟨y53 == y55, Z31, rfl, ha.keep [4] (by kernel_rfl), hI, (Hp.le_trans (Hp.le_trans hle22 hle29) hle32)⟩
                  · rw [if_neg hb51] at h1
                    have hb51 : (y48 == y50) = false := by simpa using hb51
                    refine OpsT.keep [0, 7, 55] (S' := [(0, .slice A_a0 a0.length c_a0), (7, .slice A11 y10.length cp12), (55, .bool false)]) (by simp only [hb51]; kernel_rfl) ?_
                    refine OpsT.pures (r := []) [34, 35, 36, 37, 38, 39, 40] [4] (S' := [(4, .bool false)]) (by kernel_rfl) ?_
                    refine OpsT.done ?_
                    have e := someS h1
                    subst e
                    exact Qn.thenJ fun a ha => ⟨false, Z31, rfl, ha.keep [4] (by kernel_rfl), hI, (Hp.le_trans (Hp.le_trans hle22 hle29) hle32)⟩
                · rw [if_neg hb46] at h1
                  have hb46 : (y43 == y45) = false := by simpa using hb46
                  refine OpsT.keep [0, 1, 7, 46] (S' := [(0, .slice A_a0 a0.length c_a0), (1, .int .i64 a1), (7, .slice A11 y10.length cp12), (46, .bool false)]) (by simp only [hb46]; kernel_rfl) ?_
                  refine OpsT.pures (r := []) [25, 26, 27, 28, 29, 30, 31, 32, 33, 34, 35, 36, 37, 38, 39, 40] [4] (S' := [(4, .bool false)]) (by kernel_rfl) ?_
                  refine OpsT.done ?_
                  have e := someS h1
                  subst e
                  exact Qn.thenJ fun a ha => ⟨false, Z31, rfl, ha.keep [4] (by kernel_rfl), hI, (Hp.le_trans (Hp.le_trans hle22 hle29) hle32)⟩
              · rw [if_neg hb41] at h1
                have hb41 : (y38 == y40) = false := by simpa using hb41
                refine OpsT.keep [0, 1, 7, 37] (S' := [(0, .slice A_a0 a0.length c_a0), (1, .int .i64 a1), (7, .slice A11 y10.length cp12), (37, .bool false)]) (by simp only [hb41]; kernel_rfl) ?_
                refine OpsT.pures (r := []) [16, 17, 18, 19, 20, 21, 22, 23, 24, 25, 26, 27, 28, 29, 30, 31, 32, 33, 34, 35, 36, 37, 38, 39, 40] [4] (S' := [(4, .bool false)]) (by kernel_rfl) ?_
                refine OpsT.done ?_
                have e := someS h1
                subst e
                exact Qn.thenJ fun a ha => ⟨false, Z31, rfl, ha.keep [4] (by kernel_rfl), hI, (Hp.le_trans (Hp.le_trans hle22 hle29) hle32)⟩
            · rw [if_neg hb36] at h1
              have hb36 : y35 = false := by simpa using hb36
              refine OpsT.keep [0, 1, 7, 30] (S' := [(0, .slice A_a0 a0.length c_a0), (1, .int .i64 a1), (7, .slice A11 y10.length cp12), (30, .bool false)]) (by simp only [hb36]; kernel_rfl) ?_
              refine OpsT.pures (r := []) [9, 10, 11, 12, 13, 14, 15, 16, 17, 18, 19, 20, 21, 22, 23, 24, 25, 26, 27, 28, 29, 30, 31, 32, 33, 34, 35, 36, 37, 38, 39, 40] [4] (S' := [(4, .bool false)]) (by kernel_rfl) ?_
              refine OpsT.done ?_
              have e := someS h1
              subst e
              exact Qn.thenJ fun a ha => ⟨false, Z31, rfl, ha.keep [4] (by kernel_rfl), hI, (Hp.le_trans (Hp.le_trans hle22 hle29) hle32)⟩
          · rw [if_neg hb16] at h1
            have hb16 : y2 = false := by simpa using hb16
            refine OpsT.keep [0, 1, 7, 23] (S' := [(0, .slice A_a0 a0.length c_a0), (1, .int .i64 a1), (7, .slice A11 y10.length cp12), (23, .bool false)]) (by simp only [hb16]; kernel_rfl) ?_
            refine OpsT.pures (r := []) [2, 3, 4, 5, 6, 7, 8, 9, 10, 11, 12, 13, 14, 15, 16, 17, 18, 19, 20, 21, 22, 23, 24, 25, 26, 27, 28, 29, 30, 31, 32, 33, 34, 35, 36, 37, 38, 39, 40] [4] (S' := [(4, .bool false)]) (by kernel_rfl) ?_
            refine OpsT.done ?_
            have hI := hI.drop
            have e := someS h1
            subst e
            exact Qn.thenJ fun a ha => ⟨false, Z, rfl, ha.keep [4] (by kernel_rfl), hI, (Hp.le_refl _)⟩
        ·
          rintro a w ⟨x15, Z13, rfl, ha, hI, hle14⟩
          try dsimp only at h0
          refine CodT.of ?_ ha
          refine CodT.ret ?_
          have e := someS h0
          subst e
          refine Qn.keep [4] (S' := [(4, .bool x15)]) (by kernel_rfl) ?_
          exact post_ret (v := .bool x15) (fun a ha => RunRes.run (vs := [.bool x15]) (.tmp (t := 4) (by kernel_rfl) .nil) ha (by kernel_rfl)) ⟨rfl, hI.weaken hle14⟩
end Go.Cen
