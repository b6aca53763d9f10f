/- The walk of the law ChainSame, printed by a program of ours. -/
import Derived.Test.YthdoklobbcedcacWx4
set_option linter.unusedVariables false
set_option linter.unusedSimpArgs false
namespace Go.Cen
set_option maxRecDepth 100000 in
set_option maxHeartbeats 4000000 in
/-- cenotaph/cenotaphlaw06.ChainSame -/
theorem c3 (w0 w : World) (Z : Hp) (A : HP) (hI : Inv w0 Z w A) (A_a0 : Option Addr) (c_a0 : Nat) (a0 : (List ApiEvent)) (hr_a0 : RdS Z c_ApiEvent 37 A_a0 c_a0 a0) (A_a1 : Option Addr) (c_a1 : Nat) (a1 : (List ApiEvent)) (hr_a1 : RdS Z c_ApiEvent 37 A_a1 c_a1 a1) (r : Bool) (h0 : law06_ChainSame a0 a1 = some r) :
    Calls prog 3 #[.slice A_a0 a0.length c_a0, .slice A_a1 a1.length c_a1] w (fun e w' => e = .returned (.bool r) ∧ Inv w0 Z w' A) := by
  have e4 := calls_intro (R := (fun e w' => e = .returned (.bool r) ∧ Inv w0 Z w' A)) (w := w) (args := [.slice A_a0 a0.length c_a0, .slice A_a1 a1.length c_a1]) (fn := Go.Proofs.Try.f3) 65 Go.Proofs.Try.func3 (by rfl) Go.Proofs.Try.ntmps3 (by kernel_rfl)
  refine e4 ?_
  clear e4
  unfold law06_ChainSame at h0
  refine CodT.seq ?_
  refine CodT.regionL [0] (by kernel_rfl) ?_
  refine OpsT.pures (r := []) [0] [0, 1] (S' := [(0, .slice A_a0 a0.length c_a0), (1, .slice A_a1 a1.length c_a1)]) (by kernel_rfl) ?_
  refine OpsT.done ?_
  refine Qn.then ?_
  refine CodT.seq ?_
  refine CodT.regionL [0, 1] (by kernel_rfl) ?_
  obtain ⟨y2, hc1, h0⟩ := bindS h0
  try dsimp only at h0
  refine OpsT.cons (Does.call (d := some 13) (n := 8) (vs := []) (by kernel_rfl) en8 (c8 w0 w _ _ hI _ hc1) ?_)
  rintro e w ⟨rfl, hI⟩
  refine ⟨_, rfl, ?_⟩
  refine OpsT.pures (r := []) [1] [0, 1, 5] (S' := [(0, .slice A_a0 a0.length c_a0), (1, .slice A_a1 a1.length c_a1), (5, .bool y2)]) (by kernel_rfl) ?_
  refine OpsT.done ?_
  refine Qn.then ?_
  refine CodT.seq ?_
  refine CodT.seq ?_
  refine CodT.regionL [0, 1] (by kernel_rfl) ?_
  refine OpsT.pures (r := []) [0, 1] [0, 1, 5, 15] (S' := [(0, .slice A_a0 a0.length c_a0), (1, .slice A_a1 a1.length c_a1), (5, .bool y2), (15, .bool (!y2))]) (by kernel_rfl) ?_
  refine OpsT.done ?_
  refine Qn.then ?_
  by_cases hb3 : (!y2) = true
  · rw [if_pos hb3] at h0
    refine CodT.yes' (b := !y2) (by kernel_rfl) hb3 ?_
    refine CodT.seq ?_
    refine CodT.regionL [0] (by kernel_rfl) ?_
    refine OpsT.pures (r := []) [0] [4] (S' := [(4, .bool false)]) (by kernel_rfl) ?_
    refine OpsT.done ?_
    refine Qn.then ?_
    refine CodT.ret ?_
    refine Qn.ret_then ?_
    have e := someS h0
    subst e
    refine Qn.keep [4] (S' := [(4, .bool false)]) (by kernel_rfl) ?_
    exact post_ret (v := .bool false) (fun a ha => RunRes.run (vs := [.bool false]) (.tmp (t := 4) (by kernel_rfl) .nil) ha (by kernel_rfl)) ⟨rfl, hI⟩
  · rw [if_neg hb3] at h0
    refine CodT.no' (b := !y2) (by kernel_rfl) (by simpa using hb3) ?_
    refine CodT.skip ?_
    refine Qn.then ?_
    obtain ⟨r1, h1, h0⟩ := bindS h0
    refine CodT.meet (fun a w => ∃ (x4 : Bool), x4 = r1 ∧ Fr 65 [(0, .slice A_a0 a0.length c_a0), (1, .slice A_a1 a1.length c_a1), (5, .bool y2), (6, .bool x4)] a ∧ Inv w0 Z w A) ?_ ?_
    ·
      refine CodT.regionL [0, 1, 2, 3, 4, 5, 6] (by kernel_rfl) ?_
      refine OpsT.pures (r := [1, 2, 3, 4, 5, 6]) [0] [0, 1, 5, 16] (S' := [(0, .slice A_a0 a0.length c_a0), (1, .slice A_a1 a1.length c_a1), (5, .bool y2), (16, .slice A_a0 a0.length c_a0)]) (by kernel_rfl) ?_
      obtain ⟨y6, hc5, h1⟩ := bindS h1
      try dsimp only at h1
      refine OpsT.cons (Does.call (d := some 17) (n := 9) (vs := [.slice A_a0 a0.length c_a0]) (by kernel_rfl) en9 (c9 w0 w _ _ hI A_a0 c_a0 a0 hr_a0 _ hc5) ?_)
      rintro e w ⟨rfl, hI⟩
      refine ⟨_, rfl, ?_⟩
      refine OpsT.pures (r := [3, 4, 5, 6]) [2] [0, 1, 5, 18] (S' := [(0, .slice A_a0 a0.length c_a0), (1, .slice A_a1 a1.length c_a1), (5, .bool y2), (18, .bool y6)]) (by kernel_rfl) ?_
      by_cases hb7 : y6 = true
      · rw [if_pos hb7] at h1
        refine OpsT.keep [0, 1, 5, 18] (S' := [(0, .slice A_a0 a0.length c_a0), (1, .slice A_a1 a1.length c_a1), (5, .bool y2), (18, .bool true)]) (by simp only [hb7]; kernel_rfl) ?_
        refine OpsT.pures (r := [4, 5, 6]) [3] [0, 1, 5, 18, 19] (S' := [(0, .slice A_a0 a0.length c_a0), (1, .slice A_a1 a1.length c_a1), (5, .bool y2), (18, .bool true), (19, .slice A_a1 a1.length c_a1)]) (by kernel_rfl) ?_
        obtain ⟨y9, hc8, h1⟩ := bindS h1
        try dsimp only at h1
        refine OpsT.cons (Does.call (d := some 20) (n := 9) (vs := [.slice A_a1 a1.length c_a1]) (by kernel_rfl) en9 (c9 w0 w _ _ hI A_a1 c_a1 a1 hr_a1 _ hc8) ?_)
        rintro e w ⟨rfl, hI⟩
        refine ⟨_, rfl, ?_⟩
        refine OpsT.pures (r := []) [5, 6] [0, 1, 5, 6] (S' := [(0, .slice A_a0 a0.length c_a0), (1, .slice A_a1 a1.length c_a1), (5, .bool y2), (6, .bool y9)]) (by kernel_rfl) ?_
        refine OpsT.done ?_
        have e := someS h1
        subst e
        exact Qn.thenJ fun a ha => ⟨y9, rfl, ha.keep [0, 1, 5, 6] (by kernel_rfl), hI⟩
      · rw [if_neg hb7] at h1
        have hb7 : y6 = false := by simpa using hb7
        refine OpsT.keep [0, 1, 5, 18] (S' := [(0, .slice A_a0 a0.length c_a0), (1, .slice A_a1 a1.length c_a1), (5, .bool y2), (18, .bool false)]) (by simp only [hb7]; kernel_rfl) ?_
        refine OpsT.pures (r := []) [3, 4, 5, 6] [0, 1, 5, 6] (S' := [(0, .slice A_a0 a0.length c_a0), (1, .slice A_a1 a1.length c_a1), (5, .bool y2), (6, .bool false)]) (by kernel_rfl) ?_
        refine OpsT.done ?_
        have e := someS h1
        subst e
        exact Qn.thenJ fun a ha => ⟨false, rfl, ha.keep [0, 1, 5, 6] (by kernel_rfl), hI⟩
    ·
      rintro a w ⟨x4, rfl, ha, hI⟩
      try dsimp only at h0
      refine CodT.of ?_ ha
      refine CodT.seq ?_
      obtain ⟨r1, h1, h0⟩ := bindS h0
      refine CodT.meet (fun a w => ∃ (x10 : Bool), x10 = r1 ∧ Fr 65 [(0, .slice A_a0 a0.length c_a0), (1, .slice A_a1 a1.length c_a1), (5, .bool y2), (33, .bool x10)] a ∧ Inv w0 Z w A) ?_ ?_
      ·
        refine CodT.regionL [0, 1, 2, 3, 4, 5, 6, 7, 8, 9, 10, 11] (by kernel_rfl) ?_
        refine OpsT.pures (r := [3, 4, 5, 6, 7, 8, 9, 10, 11]) [0, 1, 2] [0, 1, 5, 24] (S' := [(0, .slice A_a0 a0.length c_a0), (1, .slice A_a1 a1.length c_a1), (5, .bool y2), (24, .bool (!x4))]) (by kernel_rfl) ?_
        by_cases hb11 : (!x4) = true
        · rw [if_pos hb11] at h1
          refine OpsT.keep [0, 1, 5, 24] (S' := [(0, .slice A_a0 a0.length c_a0), (1, .slice A_a1 a1.length c_a1), (5, .bool y2), (24, .bool true)]) (by simp only [hb11]; kernel_rfl) ?_
          refine OpsT.pures (r := []) [3, 4, 5, 6, 7, 8, 9, 10, 11] [0, 1, 5, 33] (S' := [(0, .slice A_a0 a0.length c_a0), (1, .slice A_a1 a1.length c_a1), (5, .bool y2), (33, .bool true)]) (by kernel_rfl) ?_
          refine OpsT.done ?_
          have e := someS h1
          subst e
          exact Qn.thenJ fun a ha => ⟨true, rfl, ha.keep [0, 1, 5, 33] (by kernel_rfl), hI⟩
        · rw [if_neg hb11] at h1
          have hb11 : (!x4) = false := by simpa using hb11
          refine OpsT.keep [0, 1, 5, 24] (S' := [(0, .slice A_a0 a0.length c_a0), (1, .slice A_a1 a1.length c_a1), (5, .bool y2), (24, .bool false)]) (by simp only [hb11]; kernel_rfl) ?_
          refine OpsT.pures (r := [8, 9, 10, 11]) [3, 4, 5, 6, 7] [0, 1, 5, 29] (S' := [(0, .slice A_a0 a0.length c_a0), (1, .slice A_a1 a1.length c_a1), (5, .bool y2), (29, .bool (decide ((a0.length : Int) > 6)))]) (by kernel_rfl) ?_
          by_cases hb12 : (decide ((a0.length : Int) > 6)) = true
          · rw [if_pos hb12] at h1
            refine OpsT.keep [0, 1, 5, 29] (S' := [(0, .slice A_a0 a0.length c_a0), (1, .slice A_a1 a1.length c_a1), (5, .bool y2), (29, .bool true)]) (by simp only [hb12]; kernel_rfl) ?_
            refine OpsT.pures (r := []) [8, 9, 10, 11] [0, 1, 5, 33] (S' := [(0, .slice A_a0 a0.length c_a0), (1, .slice A_a1 a1.length c_a1), (5, .bool y2), (33, .bool true)]) (by kernel_rfl) ?_
            refine OpsT.done ?_
            have e := someS h1
            subst e
            exact Qn.thenJ fun a ha => ⟨true, rfl, ha.keep [0, 1, 5, 33] (by kernel_rfl), hI⟩
          · rw [if_neg hb12] at h1
            have hb12 : (decide ((a0.length : Int) > 6)) = false := by simpa using hb12
            refine OpsT.keep [0, 1, 5, 29] (S' := [(0, .slice A_a0 a0.length c_a0), (1, .slice A_a1 a1.length c_a1), (5, .bool y2), (29, .bool false)]) (by simp only [hb12]; kernel_rfl) ?_
            refine OpsT.pures (r := []) [8, 9, 10, 11] [0, 1, 5, 33] (S' := [(0, .slice A_a0 a0.length c_a0), (1, .slice A_a1 a1.length c_a1), (5, .bool y2), (33, .bool (decide ((a1.length : Int) > 6)))]) (by kernel_rfl) ?_
            refine OpsT.done ?_
            have e := someS h1
            subst e
            exact Qn.thenJ fun a ha => ⟨decide ((a1.length : Int) > 6), rfl, ha.keep [0, 1, 5, 33] (by kernel_rfl), hI⟩
      ·
        rintro a w ⟨x10, rfl, ha, hI⟩
        try dsimp only at h0
        refine CodT.of ?_ ha
        by_cases hb13 : x10 = true
        · rw [if_pos hb13] at h0
          refine CodT.yes' (b := x10) (by kernel_rfl) hb13 ?_
          refine CodT.seq ?_
          refine CodT.regionL [0, 1] (by kernel_rfl) ?_
          refine OpsT.pures (r := []) [0, 1] [4] (S' := [(4, .bool y2)]) (by kernel_rfl) ?_
          refine OpsT.done ?_
          refine Qn.then ?_
          refine CodT.ret ?_
          refine Qn.ret_then ?_
          have e := someS h0
          subst e
          refine Qn.keep [4] (S' := [(4, .bool y2)]) (by kernel_rfl) ?_
          exact post_ret (v := .bool y2) (fun a ha => RunRes.run (vs := [.bool y2]) (.tmp (t := 4) (by kernel_rfl) .nil) ha (by kernel_rfl)) ⟨rfl, hI⟩
        · rw [if_neg hb13] at h0
          refine CodT.no' (b := x10) (by kernel_rfl) (by simpa using hb13) ?_
          refine CodT.skip ?_
          refine Qn.then ?_
          refine CodT.seq ?_
          refine CodT.regionL [0, 1, 2, 3, 4, 5, 6, 7, 8, 9] (by kernel_rfl) ?_
          refine OpsT.pures (r := [2, 3, 4, 5, 6, 7, 8, 9]) [0, 1] [0, 1, 5, 36, 37] (S' := [(0, .slice A_a0 a0.length c_a0), (1, .slice A_a1 a1.length c_a1), (5, .bool y2), (36, .slice A_a0 a0.length c_a0), (37, .slice A_a1 a1.length c_a1)]) (by kernel_rfl) ?_
          obtain ⟨⟨y15, y16, y17⟩, hc14, h0⟩ := bindS h0
          try dsimp only at h0
          refine OpsT.cons (Does.call (d := some 38) (n := 10) (vs := [.slice A_a0 a0.length c_a0, .slice A_a1 a1.length c_a1]) (by kernel_rfl) en10 (c10 w0 w _ _ hI A_a0 c_a0 a0 hr_a0 A_a1 c_a1 a1 hr_a1 _ hc14) ?_)
          rintro e w ⟨rfl, hI⟩
          refine ⟨_, rfl, ?_⟩
          refine OpsT.pures (r := []) [3, 4, 5, 6, 7, 8, 9] [0, 1, 5, 7, 8, 9] (S' := [(0, .slice A_a0 a0.length c_a0), (1, .slice A_a1 a1.length c_a1), (5, .bool y2), (7, .string y15), (8, .string y16), (9, .bool y17)]) (by kernel_rfl) ?_
          refine OpsT.done ?_
          refine Qn.then ?_
          refine CodT.seq ?_
          refine CodT.regionL [0, 1, 2, 3, 4, 5, 6, 7, 8, 9] (by kernel_rfl) ?_
          refine OpsT.pures (r := [2, 3, 4, 5, 6, 7, 8, 9]) [0, 1] [5, 7, 8, 9, 43, 44] (S' := [(5, .bool y2), (7, .string y15), (8, .string y16), (9, .bool y17), (43, .slice A_a0 a0.length c_a0), (44, .slice A_a1 a1.length c_a1)]) (by kernel_rfl) ?_
          obtain ⟨⟨y19, y20, y21⟩, hc18, h0⟩ := bindS h0
          try dsimp only at h0
          refine OpsT.cons (Does.call (d := some 45) (n := 11) (vs := [.slice A_a0 a0.length c_a0, .slice A_a1 a1.length c_a1]) (by kernel_rfl) en11 (c11 w0 w _ _ hI A_a0 c_a0 a0 hr_a0 A_a1 c_a1 a1 hr_a1 _ hc18) ?_)
          rintro e w ⟨rfl, hI⟩
          refine ⟨_, rfl, ?_⟩
          refine OpsT.pures (r := []) [3, 4, 5, 6, 7, 8, 9] [5, 7, 8, 9, 10, 11, 12] (S' := [(5, .bool y2), (7, .string y15), (8, .string y16), (9, .bool y17), (10, .string y19), (11, .string y20), (12, .bool y21)]) (by kernel_rfl) ?_
          refine OpsT.done ?_
          refine Qn.then ?_
          obtain ⟨r1, h1, h0⟩ := bindS h0
          refine CodT.meet (fun a w => ∃ (x22 : Bool), x22 = r1 ∧ Fr 65 [(4, .bool x22)] a ∧ Inv w0 Z w A) ?_ ?_
          ·
            refine CodT.regionL [0, 1, 2, 3, 4, 5, 6, 7, 8, 9, 10, 11, 12, 13, 14, 15, 16] (by kernel_rfl) ?_
            refine OpsT.pures (r := [2, 3, 4, 5, 6, 7, 8, 9, 10, 11, 12, 13, 14, 15, 16]) [0, 1] [7, 8, 9, 10, 11, 12, 50] (S' := [(7, .string y15), (8, .string y16), (9, .bool y17), (10, .string y19), (11, .string y20), (12, .bool y21), (50, .bool y2)]) (by kernel_rfl) ?_
            by_cases hb23 : y2 = true
            · rw [if_pos hb23] at h1
              refine OpsT.keep [7, 8, 9, 10, 11, 12, 50] (S' := [(7, .string y15), (8, .string y16), (9, .bool y17), (10, .string y19), (11, .string y20), (12, .bool y21), (50, .bool true)]) (by simp only [hb23]; kernel_rfl) ?_
              refine OpsT.pures (r := [7, 8, 9, 10, 11, 12, 13, 14, 15, 16]) [2, 3, 4, 5, 6] [8, 9, 11, 12, 55] (S' := [(8, .string y16), (9, .bool y17), (11, .string y20), (12, .bool y21), (55, .bool (seq y15 y19))]) (by kernel_rfl) ?_
              by_cases hb24 : (seq y15 y19) = true
              · rw [if_pos hb24] at h1
                refine OpsT.keep [8, 9, 11, 12, 55] (S' := [(8, .string y16), (9, .bool y17), (11, .string y20), (12, .bool y21), (55, .bool true)]) (by simp only [hb24]; kernel_rfl) ?_
                refine OpsT.pures (r := [12, 13, 14, 15, 16]) [7, 8, 9, 10, 11] [9, 12, 60] (S' := [(9, .bool y17), (12, .bool y21), (60, .bool (seq y16 y20))]) (by kernel_rfl) ?_
                by_cases hb25 : (seq y16 y20) = true
                · rw [if_pos hb25] at h1
                  refine OpsT.keep [9, 12, 60] (S' := [(9, .bool y17), (12, .bool y21), (60, .bool true)]) (by simp only [hb25]; kernel_rfl) ?_
                  refine OpsT.pures (r := []) [12, 13, 14, 15, 16] [4] (S' := [(4, .bool (y17 == y21))]) (by kernel_rfl) ?_
                  refine OpsT.done ?_
                  have e := someS h1
                  subst e
                  exact Qn.thenJ fun a ha => ⟨y17 == y21, rfl, ha.keep [4] (by kernel_rfl), hI⟩
                · rw [if_neg hb25] at h1
                  have hb25 : (seq y16 y20) = false := by simpa using hb25
                  refine OpsT.keep [9, 12, 60] (S' := [(9, .bool y17), (12, .bool y21), (60, .bool false)]) (by simp only [hb25]; kernel_rfl) ?_
                  refine OpsT.pures (r := []) [12, 13, 14, 15, 16] [4] (S' := [(4, .bool false)]) (by kernel_rfl) ?_
                  refine OpsT.done ?_
                  have e := someS h1
                  subst e
                  exact Qn.thenJ fun a ha => ⟨false, rfl, ha.keep [4] (by kernel_rfl), hI⟩
              · rw [if_neg hb24] at h1
                have hb24 : (seq y15 y19) = false := by simpa using hb24
                refine OpsT.keep [8, 9, 11, 12, 55] (S' := [(8, .string y16), (9, .bool y17), (11, .string y20), (12, .bool y21), (55, .bool false)]) (by simp only [hb24]; kernel_rfl) ?_
                refine OpsT.pures (r := []) [7, 8, 9, 10, 11, 12, 13, 14, 15, 16] [4] (S' := [(4, .bool false)]) (by kernel_rfl) ?_
                refine OpsT.done ?_
                have e := someS h1
                subst e
                exact Qn.thenJ fun a ha => ⟨false, rfl, ha.keep [4] (by kernel_rfl), hI⟩
            · rw [if_neg hb23] at h1
              have hb23 : y2 = false := by simpa using hb23
              refine OpsT.keep [7, 8, 9, 10, 11, 12, 50] (S' := [(7, .string y15), (8, .string y16), (9, .bool y17), (10, .string y19), (11, .string y20), (12, .bool y21), (50, .bool false)]) (by simp only [hb23]; kernel_rfl) ?_
              refine OpsT.pures (r := []) [2, 3, 4, 5, 6, 7, 8, 9, 10, 11, 12, 13, 14, 15, 16] [4] (S' := [(4, .bool false)]) (by kernel_rfl) ?_
              refine OpsT.done ?_
              have e := someS h1
              subst e
              exact Qn.thenJ fun a ha => ⟨false, rfl, ha.keep [4] (by kernel_rfl), hI⟩
          ·
            rintro a w ⟨x22, rfl, ha, hI⟩
            try dsimp only at h0
            refine CodT.of ?_ ha
            refine CodT.ret ?_
            have e := someS h0
            subst e
            refine Qn.keep [4] (S' := [(4, .bool x22)]) (by kernel_rfl) ?_
            exact post_ret (v := .bool x22) (fun a ha => RunRes.run (vs := [.bool x22]) (.tmp (t := 4) (by kernel_rfl) .nil) ha (by kernel_rfl)) ⟨rfl, hI⟩
end Go.Cen
