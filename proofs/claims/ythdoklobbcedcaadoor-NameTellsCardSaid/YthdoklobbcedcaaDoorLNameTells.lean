/- The walk of the law NameTells, printed by a program of ours. -/
import Derived.Test.YthdoklobbcedcaaDoorWy1
set_option linter.unusedVariables false
set_option linter.unusedSimpArgs false
namespace Go.Cen
set_option maxRecDepth 100000 in
set_option maxHeartbeats 4000000 in
/-- cenotaph/cenotaphlaw03.NameTells -/
theorem c3 (w0 w : World) (Z : Hp) (A : HP) (hI : Inv w0 Z w A) (hT : Tabs Z) (a0 : ByteArray) (a1 : ByteArray) (r : Bool) (h0 : law03_NameTells a0 a1 = some r) :
    Calls prog 3 #[.string a0, .string a1] w (fun e w' => e = .returned (.bool r) ∧ Inv w0 Z w' A) := by
  have e4 := calls_intro (R := (fun e w' => e = .returned (.bool r) ∧ Inv w0 Z w' A)) (w := w) (args := [.string a0, .string a1]) (fn := Go.Proofs.Tryd.f3) 78 Go.Proofs.Tryd.func3 (by rfl) Go.Proofs.Tryd.ntmps3 (by kernel_rfl)
  refine e4 ?_
  clear e4
  unfold law03_NameTells at h0
  refine CodT.seq ?_
  refine CodT.regionL [0] (by kernel_rfl) ?_
  refine OpsT.pures (r := []) [0] [0, 1] (S' := [(0, .string a0), (1, .string a1)]) (by kernel_rfl) ?_
  refine OpsT.done ?_
  refine Qn.then ?_
  refine CodT.seq ?_
  refine CodT.regionL [0, 1] (by kernel_rfl) ?_
  obtain ⟨y2, hc1, h0⟩ := bindS h0
  try dsimp only at h0
  refine OpsT.cons (Does.call (d := some 12) (n := 4) (vs := []) (by kernel_rfl) en4 (c4 w0 w _ _ hI hT _ hc1) ?_)
  rintro e w ⟨rfl, hI⟩
  refine ⟨_, rfl, ?_⟩
  refine OpsT.pures (r := []) [1] [0, 1, 5] (S' := [(0, .string a0), (1, .string a1), (5, .bool y2)]) (by kernel_rfl) ?_
  refine OpsT.done ?_
  refine Qn.then ?_
  refine CodT.seq ?_
  refine CodT.seq ?_
  refine CodT.regionL [0, 1] (by kernel_rfl) ?_
  refine OpsT.pures (r := []) [0, 1] [0, 1, 5, 14] (S' := [(0, .string a0), (1, .string a1), (5, .bool y2), (14, .bool (!y2))]) (by kernel_rfl) ?_
  refine OpsT.done ?_
  refine Qn.then ?_
  by_cases hb3 : (!y2) = true
  · rw [if_pos hb3] at h0
    refine CodT.yes' (b := !y2) (by kernel_rfl) hb3 ?_
    refine CodT.seq ?_
    refine CodT.regionL [0] (by kernel_rfl) ?_
    refine OpsT.pures (r := []) [0] [4] (S' := [(4, .bool false)]) (by kernel_rfl) ?_
    refine OpsT.done ?_
    refine Qn.then ?_
    refine CodT.ret ?_
    refine Qn.ret_then ?_
    have e := someS h0
    subst e
    refine Qn.keep [4] (S' := [(4, .bool false)]) (by kernel_rfl) ?_
    exact post_ret (v := .bool false) (fun a ha => RunRes.run (vs := [.bool false]) (.tmp (t := 4) (by kernel_rfl) .nil) ha (by kernel_rfl)) ⟨rfl, hI⟩
  · rw [if_neg hb3] at h0
    refine CodT.no' (b := !y2) (by kernel_rfl) (by simpa using hb3) ?_
    refine CodT.skip ?_
    refine Qn.then ?_
    refine CodT.seq ?_
    obtain ⟨r1, h1, h0⟩ := bindS h0
    refine CodT.meet (fun a w => ∃ (x4 : Bool), x4 = r1 ∧ Fr 78 [(0, .string a0), (1, .string a1), (5, .bool y2), (22, .bool x4)] a ∧ Inv w0 Z w A) ?_ ?_
    ·
      refine CodT.regionL [0, 1, 2, 3, 4, 5, 6, 7] (by kernel_rfl) ?_
      refine OpsT.pures (r := [4, 5, 6, 7]) [0, 1, 2, 3] [0, 1, 5, 18] (S' := [(0, .string a0), (1, .string a1), (5, .bool y2), (18, .bool (decide ((a0.size : Int) > 200)))]) (by kernel_rfl) ?_
      by_cases hb5 : (decide ((a0.size : Int) > 200)) = true
      · rw [if_pos hb5] at h1
        refine OpsT.keep [0, 1, 5, 18] (S' := [(0, .string a0), (1, .string a1), (5, .bool y2), (18, .bool true)]) (by simp only [hb5]; kernel_rfl) ?_
        refine OpsT.pures (r := []) [4, 5, 6, 7] [0, 1, 5, 22] (S' := [(0, .string a0), (1, .string a1), (5, .bool y2), (22, .bool true)]) (by kernel_rfl) ?_
        refine OpsT.done ?_
        have e := someS h1
        subst e
        exact Qn.thenJ fun a ha => ⟨true, rfl, ha.keep [0, 1, 5, 22] (by kernel_rfl), hI⟩
      · rw [if_neg hb5] at h1
        have hb5 : (decide ((a0.size : Int) > 200)) = false := by simpa using hb5
        refine OpsT.keep [0, 1, 5, 18] (S' := [(0, .string a0), (1, .string a1), (5, .bool y2), (18, .bool false)]) (by simp only [hb5]; kernel_rfl) ?_
        refine OpsT.pures (r := []) [4, 5, 6, 7] [0, 1, 5, 22] (S' := [(0, .string a0), (1, .string a1), (5, .bool y2), (22, .bool (decide ((a1.size : Int) > 200)))]) (by kernel_rfl) ?_
        refine OpsT.done ?_
        have e := someS h1
        subst e
        exact Qn.thenJ fun a ha => ⟨decide ((a1.size : Int) > 200), rfl, ha.keep [0, 1, 5, 22] (by kernel_rfl), hI⟩
    ·
      rintro a w ⟨x4, rfl, ha, hI⟩
      try dsimp only at h0
      refine CodT.of ?_ ha
      by_cases hb6 : x4 = true
      · rw [if_pos hb6] at h0
        refine CodT.yes' (b := x4) (by kernel_rfl) hb6 ?_
        refine CodT.seq ?_
        refine CodT.regionL [0, 1] (by kernel_rfl) ?_
        refine OpsT.pures (r := []) [0, 1] [4] (S' := [(4, .bool y2)]) (by kernel_rfl) ?_
        refine OpsT.done ?_
        refine Qn.then ?_
        refine CodT.ret ?_
        refine Qn.ret_then ?_
        have e := someS h0
        subst e
        refine Qn.keep [4] (S' := [(4, .bool y2)]) (by kernel_rfl) ?_
        exact post_ret (v := .bool y2) (fun a ha => RunRes.run (vs := [.bool y2]) (.tmp (t := 4) (by kernel_rfl) .nil) ha (by kernel_rfl)) ⟨rfl, hI⟩
      · rw [if_neg hb6] at h0
        refine CodT.no' (b := x4) (by kernel_rfl) (by simpa using hb6) ?_
        refine CodT.skip ?_
        refine Qn.then ?_
        refine CodT.seq ?_
        refine CodT.regionL [0, 1, 2, 3, 4, 5, 6] (by kernel_rfl) ?_
        refine OpsT.pures (r := [1, 2, 3, 4, 5, 6]) [0] [0, 1, 5, 25] (S' := [(0, .string a0), (1, .string a1), (5, .bool y2), (25, .string a1)]) (by kernel_rfl) ?_
        obtain ⟨⟨y8, y9⟩, hc7, h0⟩ := bindS h0
        try dsimp only at h0
        refine OpsT.cons (Does.call (d := some 26) (n := 5) (vs := [.string a1]) (by kernel_rfl) en5 (c5 w0 w _ _ hI hT a1 _ hc7) ?_)
        rintro e w ⟨rfl, hI⟩
        refine ⟨_, rfl, ?_⟩
        refine OpsT.pures (r := []) [2, 3, 4, 5, 6] [0, 1, 5, 6, 7] (S' := [(0, .string a0), (1, .string a1), (5, .bool y2), (6, .string y8), (7, .bool y9)]) (by kernel_rfl) ?_
        refine OpsT.done ?_
        refine Qn.then ?_
        refine CodT.seq ?_
        refine CodT.regionL [0, 1, 2, 3, 4, 5, 6] (by kernel_rfl) ?_
        refine OpsT.pures (r := [1, 2, 3, 4, 5, 6]) [0] [0, 1, 5, 6, 7, 30] (S' := [(0, .string a0), (1, .string a1), (5, .bool y2), (6, .string y8), (7, .bool y9), (30, .string a1)]) (by kernel_rfl) ?_
        obtain ⟨⟨y11, y12⟩, hc10, h0⟩ := bindS h0
        try dsimp only at h0
        refine OpsT.cons (Does.call (d := some 31) (n := 6) (vs := [.string a1]) (by kernel_rfl) en6 (c6 w0 w _ _ hI hT a1 _ hc10) ?_)
        rintro e w ⟨rfl, hI⟩
        refine ⟨_, rfl, ?_⟩
        refine OpsT.pures (r := []) [2, 3, 4, 5, 6] [0, 1, 5, 6, 7, 8, 9] (S' := [(0, .string a0), (1, .string a1), (5, .bool y2), (6, .string y8), (7, .bool y9), (8, .string y11), (9, .bool y12)]) (by kernel_rfl) ?_
        refine OpsT.done ?_
        refine Qn.then ?_
        refine CodT.seq ?_
        refine CodT.regionL [0, 1, 2] (by kernel_rfl) ?_
        refine OpsT.pures (r := [1, 2]) [0] [0, 1, 5, 6, 7, 8, 9, 34] (S' := [(0, .string a0), (1, .string a1), (5, .bool y2), (6, .string y8), (7, .bool y9), (8, .string y11), (9, .bool y12), (34, .string a0)]) (by kernel_rfl) ?_
        obtain ⟨y14, hc13, h0⟩ := bindS h0
        try dsimp only at h0
        refine OpsT.cons (Does.call (d := some 35) (n := 7) (vs := [.string a0]) (by kernel_rfl) en7 (c7 w0 w _ _ hI hT a0 _ hc13) ?_)
        rintro e w ⟨rfl, hI⟩
        refine ⟨_, rfl, ?_⟩
        refine OpsT.pures (r := []) [2] [0, 1, 5, 6, 7, 8, 9, 10] (S' := [(0, .string a0), (1, .string a1), (5, .bool y2), (6, .string y8), (7, .bool y9), (8, .string y11), (9, .bool y12), (10, .bool y14)]) (by kernel_rfl) ?_
        refine OpsT.done ?_
        refine Qn.then ?_
        refine CodT.seq ?_
        refine CodT.regionL [0, 1, 2, 3] (by kernel_rfl) ?_
        refine OpsT.pures (r := [2, 3]) [0, 1] [0, 1, 5, 6, 7, 8, 9, 10, 36, 37] (S' := [(0, .string a0), (1, .string a1), (5, .bool y2), (6, .string y8), (7, .bool y9), (8, .string y11), (9, .bool y12), (10, .bool y14), (36, .string a0), (37, .string a1)]) (by kernel_rfl) ?_
        obtain ⟨y16, hc15, h0⟩ := bindS h0
        try dsimp only at h0
        refine OpsT.cons (Does.call (d := some 38) (n := 8) (vs := [.string a0, .string a1]) (by kernel_rfl) en8 (c8 w0 w _ _ hI hT a0 a1 _ hc15) ?_)
        rintro e w ⟨rfl, hI⟩
        refine ⟨_, rfl, ?_⟩
        refine OpsT.pures (r := []) [3] [0, 1, 5, 6, 7, 8, 9, 10, 11] (S' := [(0, .string a0), (1, .string a1), (5, .bool y2), (6, .string y8), (7, .bool y9), (8, .string y11), (9, .bool y12), (10, .bool y14), (11, .bool y16)]) (by kernel_rfl) ?_
        refine OpsT.done ?_
        refine Qn.then ?_
        obtain ⟨r1, h1, h0⟩ := bindS h0
        refine CodT.meet (fun a w => ∃ (x17 : Bool), x17 = r1 ∧ Fr 78 [(4, .bool x17)] a ∧ Inv w0 Z w A) ?_ ?_
        ·
          refine CodT.regionL [0, 1, 2, 3, 4, 5, 6, 7, 8, 9, 10, 11, 12, 13, 14, 15, 16, 17, 18, 19, 20, 21, 22, 23, 24, 25, 26, 27, 28, 29, 30, 31, 32, 33, 34, 35, 36, 37, 38, 39] (by kernel_rfl) ?_
          refine OpsT.pures (r := [2, 3, 4, 5, 6, 7, 8, 9, 10, 11, 12, 13, 14, 15, 16, 17, 18, 19, 20, 21, 22, 23, 24, 25, 26, 27, 28, 29, 30, 31, 32, 33, 34, 35, 36, 37, 38, 39]) [0, 1] [0, 1, 6, 7, 8, 9, 10, 11, 40] (S' := [(0, .string a0), (1, .string a1), (6, .string y8), (7, .bool y9), (8, .string y11), (9, .bool y12), (10, .bool y14), (11, .bool y16), (40, .bool y2)]) (by kernel_rfl) ?_
          by_cases hb18 : y2 = true
          · rw [if_pos hb18] at h1
            refine OpsT.keep [0, 1, 6, 7, 8, 9, 10, 11, 40] (S' := [(0, .string a0), (1, .string a1), (6, .string y8), (7, .bool y9), (8, .string y11), (9, .bool y12), (10, .bool y14), (11, .bool y16), (40, .bool true)]) (by simp only [hb18]; kernel_rfl) ?_
            refine OpsT.pures (r := [3, 4, 5, 6, 7, 8, 9, 10, 11, 12, 13, 14, 15, 16, 17, 18, 19, 20, 21, 22, 23, 24, 25, 26, 27, 28, 29, 30, 31, 32, 33, 34, 35, 36, 37, 38, 39]) [2] [0, 1, 6, 7, 8, 9, 10, 11, 40, 41] (S' := [(0, .string a0), (1, .string a1), (6, .string y8), (7, .bool y9), (8, .string y11), (9, .bool y12), (10, .bool y14), (11, .bool y16), (40, .bool true), (41, .string a0)]) (by kernel_rfl) ?_
            obtain ⟨y20, hc19, h1⟩ := bindS h1
            try dsimp only at h1
            refine OpsT.cons (Does.call (d := some 42) (n := 9) (vs := [.string a0]) (by kernel_rfl) en9 (c9 w0 w _ _ hI hT a0 _ hc19) ?_)
            rintro e w ⟨rfl, hI⟩
            refine ⟨_, rfl, ?_⟩
            refine OpsT.pures (r := [8, 9, 10, 11, 12, 13, 14, 15, 16, 17, 18, 19, 20, 21, 22, 23, 24, 25, 26, 27, 28, 29, 30, 31, 32, 33, 34, 35, 36, 37, 38, 39]) [4, 5, 6, 7] [0, 1, 6, 7, 8, 9, 11, 46] (S' := [(0, .string a0), (1, .string a1), (6, .string y8), (7, .bool y9), (8, .string y11), (9, .bool y12), (11, .bool y16), (46, .bool (y20 == y14))]) (by kernel_rfl) ?_
            by_cases hb21 : (y20 == y14) = true
            · rw [if_pos hb21] at h1
              refine OpsT.keep [0, 1, 6, 7, 8, 9, 11, 46] (S' := [(0, .string a0), (1, .string a1), (6, .string y8), (7, .bool y9), (8, .string y11), (9, .bool y12), (11, .bool y16), (46, .bool true)]) (by simp only [hb21]; kernel_rfl) ?_
              refine OpsT.pures (r := [9, 10, 11, 12, 13, 14, 15, 16, 17, 18, 19, 20, 21, 22, 23, 24, 25, 26, 27, 28, 29, 30, 31, 32, 33, 34, 35, 36, 37, 38, 39]) [8] [0, 1, 6, 7, 8, 9, 11, 46, 47] (S' := [(0, .string a0), (1, .string a1), (6, .string y8), (7, .bool y9), (8, .string y11), (9, .bool y12), (11, .bool y16), (46, .bool true), (47, .string a0)]) (by kernel_rfl) ?_
              obtain ⟨y23, hc22, h1⟩ := bindS h1
              try dsimp only at h1
              refine OpsT.cons (Does.call (d := some 48) (n := 10) (vs := [.string a0]) (by kernel_rfl) en10 (c10 w0 w _ _ hI hT a0 _ hc22) ?_)
              rintro e w ⟨rfl, hI⟩
              refine ⟨_, rfl, ?_⟩
              refine OpsT.pures (r := [11, 12, 13, 14, 15, 16, 17, 18, 19, 20, 21, 22, 23, 24, 25, 26, 27, 28, 29, 30, 31, 32, 33, 34, 35, 36, 37, 38, 39]) [10] [0, 1, 6, 7, 8, 9, 11, 46, 48, 49] (S' := [(0, .string a0), (1, .string a1), (6, .string y8), (7, .bool y9), (8, .string y11), (9, .bool y12), (11, .bool y16), (46, .bool true), (48, .int .i64 y23), (49, .string a0)]) (by kernel_rfl) ?_
              obtain ⟨y25, hc24, h1⟩ := bindS h1
              try dsimp only at h1
              refine OpsT.cons (Does.call (d := some 50) (n := 11) (vs := [.string a0]) (by kernel_rfl) en11 (c11 w0 w _ _ hI hT a0 _ hc24) ?_)
              rintro e w ⟨A26, cp27, rfl, hI⟩
              refine ⟨_, rfl, ?_⟩
              refine OpsT.pures (r := [16, 17, 18, 19, 20, 21, 22, 23, 24, 25, 26, 27, 28, 29, 30, 31, 32, 33, 34, 35, 36, 37, 38, 39]) [12, 13, 14, 15] [0, 1, 6, 7, 8, 9, 11, 54] (S' := [(0, .string a0), (1, .string a1), (6, .string y8), (7, .bool y9), (8, .string y11), (9, .bool y12), (11, .bool y16), (54, .bool (y23 == (y25.length : Int)))]) (by kernel_rfl) ?_
              by_cases hb28 : (y23 == (y25.length : Int)) = true
              · rw [if_pos hb28] at h1
                refine OpsT.keep [0, 1, 6, 7, 8, 9, 11, 54] (S' := [(0, .string a0), (1, .string a1), (6, .string y8), (7, .bool y9), (8, .string y11), (9, .bool y12), (11, .bool y16), (54, .bool true)]) (by simp only [hb28]; kernel_rfl) ?_
                refine OpsT.pures (r := [17, 18, 19, 20, 21, 22, 23, 24, 25, 26, 27, 28, 29, 30, 31, 32, 33, 34, 35, 36, 37, 38, 39]) [16] [0, 1, 6, 7, 8, 9, 11, 54, 55] (S' := [(0, .string a0), (1, .string a1), (6, .string y8), (7, .bool y9), (8, .string y11), (9, .bool y12), (11, .bool y16), (54, .bool true), (55, .string a0)]) (by kernel_rfl) ?_
                obtain ⟨y30, hc29, h1⟩ := bindS h1
                try dsimp only at h1
                refine OpsT.cons (Does.call (d := some 56) (n := 12) (vs := [.string a0]) (by kernel_rfl) en12 (c12 w0 w _ _ hI hT a0 _ hc29) ?_)
                rintro e w ⟨rfl, hI⟩
                refine ⟨_, rfl, ?_⟩
                refine OpsT.pures (r := [19, 20, 21, 22, 23, 24, 25, 26, 27, 28, 29, 30, 31, 32, 33, 34, 35, 36, 37, 38, 39]) [18] [0, 1, 6, 7, 8, 9, 11, 54, 56, 57] (S' := [(0, .string a0), (1, .string a1), (6, .string y8), (7, .bool y9), (8, .string y11), (9, .bool y12), (11, .bool y16), (54, .bool true), (56, .string y30), (57, .string a0)]) (by kernel_rfl) ?_
                obtain ⟨y32, hc31, h1⟩ := bindS h1
                try dsimp only at h1
                refine OpsT.cons (Does.call (d := some 58) (n := 13) (vs := [.string a0]) (by kernel_rfl) en13 (c13 w0 w _ _ hI hT a0 _ hc31) ?_)
                rintro e w ⟨rfl, hI⟩
                refine ⟨_, rfl, ?_⟩
                refine OpsT.pures (r := [23, 24, 25, 26, 27, 28, 29, 30, 31, 32, 33, 34, 35, 36, 37, 38, 39]) [20, 21, 22] [0, 1, 6, 7, 8, 9, 11, 61] (S' := [(0, .string a0), (1, .string a1), (6, .string y8), (7, .bool y9), (8, .string y11), (9, .bool y12), (11, .bool y16), (61, .bool (seq y30 y32))]) (by kernel_rfl) ?_
                by_cases hb33 : (seq y30 y32) = true
                · rw [if_pos hb33] at h1
                  refine OpsT.keep [0, 1, 6, 7, 8, 9, 11, 61] (S' := [(0, .string a0), (1, .string a1), (6, .string y8), (7, .bool y9), (8, .string y11), (9, .bool y12), (11, .bool y16), (61, .bool true)]) (by simp only [hb33]; kernel_rfl) ?_
                  refine OpsT.pures (r := [28, 29, 30, 31, 32, 33, 34, 35, 36, 37, 38, 39]) [23, 24, 25, 26, 27] [0, 1, 7, 9, 11, 66] (S' := [(0, .string a0), (1, .string a1), (7, .bool y9), (9, .bool y12), (11, .bool y16), (66, .bool (seq y8 y11))]) (by kernel_rfl) ?_
                  by_cases hb34 : (seq y8 y11) = true
                  · rw [if_pos hb34] at h1
                    refine OpsT.keep [0, 1, 7, 9, 11, 66] (S' := [(0, .string a0), (1, .string a1), (7, .bool y9), (9, .bool y12), (11, .bool y16), (66, .bool true)]) (by simp only [hb34]; kernel_rfl) ?_
                    refine OpsT.pures (r := [33, 34, 35, 36, 37, 38, 39]) [28, 29, 30, 31, 32] [0, 1, 11, 71] (S' := [(0, .string a0), (1, .string a1), (11, .bool y16), (71, .bool (y9 == y12))]) (by kernel_rfl) ?_
                    by_cases hb35 : (y9 == y12) = true
                    · rw [if_pos hb35] at h1
                      refine OpsT.keep [0, 1, 11, 71] (S' := [(0, .string a0), (1, .string a1), (11, .bool y16), (71, .bool true)]) (by simp only [hb35]; kernel_rfl) ?_
                      refine OpsT.pures (r := [35, 36, 37, 38, 39]) [33, 34] [11, 71, 72, 73] (S' := [(11, .bool y16), (71, .bool true), (72, .string a0), (73, .string a1)]) (by kernel_rfl) ?_
                      obtain ⟨y37, hc36, h1⟩ := bindS h1
                      try dsimp only at h1
                      refine OpsT.cons (Does.call (d := some 74) (n := 14) (vs := [.string a0, .string a1]) (by kernel_rfl) en14 (c14 w0 w _ _ hI hT a0 a1 _ hc36) ?_)
                      rintro e w ⟨rfl, hI⟩
                      refine ⟨_, rfl, ?_⟩
                      refine OpsT.pures (r := []) [36, 37, 38, 39] [4] (S' := [(4, .bool (y37 == y16))]) (by kernel_rfl) ?_
                      refine OpsT.done ?_
                      have hI := hI.drop
                      have e := someS h1
                      subst e
                      exact Qn.thenJ fun a ha => ⟨y37 == y16, rfl, ha.keep [4] (by kernel_rfl), hI⟩
                    · rw [if_neg hb35] at h1
                      have hb35 : (y9 == y12) = false := by simpa using hb35
                      refine OpsT.keep [0, 1, 11, 71] (S' := [(0, .string a0), (1, .string a1), (11, .bool y16), (71, .bool false)]) (by simp only [hb35]; kernel_rfl) ?_
                      refine OpsT.pures (r := []) [33, 34, 35, 36, 37, 38, 39] [4] (S' := [(4, .bool false)]) (by kernel_rfl) ?_
                      refine OpsT.done ?_
                      have hI := hI.drop
                      have e := someS h1
                      subst e
                      exact Qn.thenJ fun a ha => ⟨false, rfl, ha.keep [4] (by kernel_rfl), hI⟩
                  · rw [if_neg hb34] at h1
                    have hb34 : (seq y8 y11) = false := by simpa using hb34
                    refine OpsT.keep [0, 1, 7, 9, 11, 66] (S' := [(0, .string a0), (1, .string a1), (7, .bool y9), (9, .bool y12), (11, .bool y16), (66, .bool false)]) (by simp only [hb34]; kernel_rfl) ?_
                    refine OpsT.pures (r := []) [28, 29, 30, 31, 32, 33, 34, 35, 36, 37, 38, 39] [4] (S' := [(4, .bool false)]) (by kernel_rfl) ?_
                    refine OpsT.done ?_
                    have hI := hI.drop
                    have e := someS h1
                    subst e
                    exact Qn.thenJ fun a ha => ⟨false, rfl, ha.keep [4] (by kernel_rfl), hI⟩
                · rw [if_neg hb33] at h1
                  have hb33 : (seq y30 y32) = false := by simpa using hb33
                  refine OpsT.keep [0, 1, 6, 7, 8, 9, 11, 61] (S' := [(0, .string a0), (1, .string a1), (6, .string y8), (7, .bool y9), (8, .string y11), (9, .bool y12), (11, .bool y16), (61, .bool false)]) (by simp only [hb33]; kernel_rfl) ?_
                  refine OpsT.pures (r := []) [23, 24, 25, 26, 27, 28, 29, 30, 31, 32, 33, 34, 35, 36, 37, 38, 39] [4] (S' := [(4, .bool false)]) (by kernel_rfl) ?_
                  refine OpsT.done ?_
                  have hI := hI.drop
                  have e := someS h1
                  subst e
                  exact Qn.thenJ fun a ha => ⟨false, rfl, ha.keep [4] (by kernel_rfl), hI⟩
              · rw [if_neg hb28] at h1
                have hb28 : (y23 == (y25.length : Int)) = false := by simpa using hb28
                refine OpsT.keep [0, 1, 6, 7, 8, 9, 11, 54] (S' := [(0, .string a0), (1, .string a1), (6, .string y8), (7, .bool y9), (8, .string y11), (9, .bool y12), (11, .bool y16), (54, .bool false)]) (by simp only [hb28]; kernel_rfl) ?_
                refine OpsT.pures (r := []) [16, 17, 18, 19, 20, 21, 22, 23, 24, 25, 26, 27, 28, 29, 30, 31, 32, 33, 34, 35, 36, 37, 38, 39] [4] (S' := [(4, .bool false)]) (by kernel_rfl) ?_
                refine OpsT.done ?_
                have hI := hI.drop
                have e := someS h1
                subst e
                exact Qn.thenJ fun a ha => ⟨false, rfl, ha.keep [4] (by kernel_rfl), hI⟩
            · rw [if_neg hb21] at h1
              have hb21 : (y20 == y14) = false := by simpa using hb21
              refine OpsT.keep [0, 1, 6, 7, 8, 9, 11, 46] (S' := [(0, .string a0), (1, .string a1), (6, .string y8), (7, .bool y9), (8, .string y11), (9, .bool y12), (11, .bool y16), (46, .bool false)]) (by simp only [hb21]; kernel_rfl) ?_
              refine OpsT.pures (r := []) [8, 9, 10, 11, 12, 13, 14, 15, 16, 17, 18, 19, 20, 21, 22, 23, 24, 25, 26, 27, 28, 29, 30, 31, 32, 33, 34, 35, 36, 37, 38, 39] [4] (S' := [(4, .bool false)]) (by kernel_rfl) ?_
              refine OpsT.done ?_
              have e := someS h1
              subst e
              exact Qn.thenJ fun a ha => ⟨false, rfl, ha.keep [4] (by kernel_rfl), hI⟩
          · rw [if_neg hb18] at h1
            have hb18 : y2 = false := by simpa using hb18
            refine OpsT.keep [0, 1, 6, 7, 8, 9, 10, 11, 40] (S' := [(0, .string a0), (1, .string a1), (6, .string y8), (7, .bool y9), (8, .string y11), (9, .bool y12), (10, .bool y14), (11, .bool y16), (40, .bool false)]) (by simp only [hb18]; kernel_rfl) ?_
            refine OpsT.pures (r := []) [2, 3, 4, 5, 6, 7, 8, 9, 10, 11, 12, 13, 14, 15, 16, 17, 18, 19, 20, 21, 22, 23, 24, 25, 26, 27, 28, 29, 30, 31, 32, 33, 34, 35, 36, 37, 38, 39] [4] (S' := [(4, .bool false)]) (by kernel_rfl) ?_
            refine OpsT.done ?_
            have e := someS h1
            subst e
            exact Qn.thenJ fun a ha => ⟨false, rfl, ha.keep [4] (by kernel_rfl), hI⟩
        ·
          rintro a w ⟨x17, rfl, ha, hI⟩
          try dsimp only at h0
          refine CodT.of ?_ ha
          refine CodT.ret ?_
          have e := someS h0
          subst e
          refine Qn.keep [4] (S' := [(4, .bool x17)]) (by kernel_rfl) ?_
          exact post_ret (v := .bool x17) (fun a ha => RunRes.run (vs := [.bool x17]) (.tmp (t := 4) (by kernel_rfl) .nil) ha (by kernel_rfl)) ⟨rfl, hI⟩
end Go.Cen
