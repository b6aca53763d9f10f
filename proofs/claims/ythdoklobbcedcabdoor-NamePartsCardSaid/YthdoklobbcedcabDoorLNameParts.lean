/- The walk of the law NameParts, printed by a program of ours. -/
import Derived.Test.YthdoklobbcedcabDoorWx1
set_option linter.unusedVariables false
set_option linter.unusedSimpArgs false
namespace Go.Cen
set_option maxRecDepth 100000 in
set_option maxHeartbeats 4000000 in
/-- cenotaph/cenotaphlaw03.NameParts -/
theorem c5 (w0 w : World) (Z : Hp) (A : HP) (hI : Inv w0 Z w A) (hT : Tabs Z) (a0 : ByteArray) (a1 : ByteArray) (r : Bool) (h0 : law03_NameParts a0 a1 = some r) :
    Calls prog 5 #[.string a0, .string a1] w (fun e w' => e = .returned (.bool r) ∧ Inv w0 Z w' A) := by
  have e4 := calls_intro (R := (fun e w' => e = .returned (.bool r) ∧ Inv w0 Z w' A)) (w := w) (args := [.string a0, .string a1]) (fn := Go.Proofs.Tryd.f5) 123 Go.Proofs.Tryd.func5 (by rfl) Go.Proofs.Tryd.ntmps5 (by kernel_rfl)
  refine e4 ?_
  clear e4
  unfold law03_NameParts at h0
  refine CodT.seq ?_
  refine CodT.regionL [0] (by kernel_rfl) ?_
  refine OpsT.pures (r := []) [0] [0, 1] (S' := [(0, .string a0), (1, .string a1)]) (by kernel_rfl) ?_
  refine OpsT.done ?_
  refine Qn.then ?_
  refine CodT.seq ?_
  refine CodT.regionL [0, 1] (by kernel_rfl) ?_
  obtain ⟨y2, hc1, h0⟩ := bindS h0
  try dsimp only at h0
  refine OpsT.cons (Does.call (d := some 11) (n := 8) (vs := []) (by kernel_rfl) en8 (c8 w0 w _ _ hI hT _ hc1) ?_)
  rintro e w ⟨rfl, hI⟩
  refine ⟨_, rfl, ?_⟩
  refine OpsT.pures (r := []) [1] [0, 1, 5] (S' := [(0, .string a0), (1, .string a1), (5, .bool y2)]) (by kernel_rfl) ?_
  refine OpsT.done ?_
  refine Qn.then ?_
  refine CodT.seq ?_
  refine CodT.seq ?_
  refine CodT.regionL [0, 1] (by kernel_rfl) ?_
  refine OpsT.pures (r := []) [0, 1] [0, 1, 5, 13] (S' := [(0, .string a0), (1, .string a1), (5, .bool y2), (13, .bool (!y2))]) (by kernel_rfl) ?_
  refine OpsT.done ?_
  refine Qn.then ?_
  by_cases hb3 : (!y2) = true
  · rw [if_pos hb3] at h0
    refine CodT.yes' (b := !y2) (by kernel_rfl) hb3 ?_
    refine CodT.seq ?_
    refine CodT.regionL [0] (by kernel_rfl) ?_
    refine OpsT.pures (r := []) [0] [4] (S' := [(4, .bool false)]) (by kernel_rfl) ?_
    refine OpsT.done ?_
    refine Qn.then ?_
    refine CodT.ret ?_
    refine Qn.ret_then ?_
    have e := someS h0
    subst e
    refine Qn.keep [4] (S' := [(4, .bool false)]) (by kernel_rfl) ?_
    exact post_ret (v := .bool false) (fun a ha => RunRes.run (vs := [.bool false]) (.tmp (t := 4) (by kernel_rfl) .nil) ha (by kernel_rfl)) ⟨rfl, hI⟩
  · rw [if_neg hb3] at h0
    refine CodT.no' (b := !y2) (by kernel_rfl) (by simpa using hb3) ?_
    refine CodT.skip ?_
    refine Qn.then ?_
    refine CodT.seq ?_
    obtain ⟨r1, h1, h0⟩ := bindS h0
    refine CodT.meet (fun a w => ∃ (x4 : Bool), x4 = r1 ∧ Fr 123 [(0, .string a0), (1, .string a1), (5, .bool y2), (21, .bool x4)] a ∧ Inv w0 Z w A) ?_ ?_
    ·
      refine CodT.regionL [0, 1, 2, 3, 4, 5, 6, 7] (by kernel_rfl) ?_
      refine OpsT.pures (r := [4, 5, 6, 7]) [0, 1, 2, 3] [0, 1, 5, 17] (S' := [(0, .string a0), (1, .string a1), (5, .bool y2), (17, .bool (decide ((a0.size : Int) > 200)))]) (by kernel_rfl) ?_
      by_cases hb5 : (decide ((a0.size : Int) > 200)) = true
      · rw [if_pos hb5] at h1
        refine OpsT.keep [0, 1, 5, 17] (S' := [(0, .string a0), (1, .string a1), (5, .bool y2), (17, .bool true)]) (by simp only [hb5]; kernel_rfl) ?_
        refine OpsT.pures (r := []) [4, 5, 6, 7] [0, 1, 5, 21] (S' := [(0, .string a0), (1, .string a1), (5, .bool y2), (21, .bool true)]) (by kernel_rfl) ?_
        refine OpsT.done ?_
        have e := someS h1
        subst e
        exact Qn.thenJ fun a ha => ⟨true, rfl, ha.keep [0, 1, 5, 21] (by kernel_rfl), hI⟩
      · rw [if_neg hb5] at h1
        have hb5 : (decide ((a0.size : Int) > 200)) = false := by simpa using hb5
        refine OpsT.keep [0, 1, 5, 17] (S' := [(0, .string a0), (1, .string a1), (5, .bool y2), (17, .bool false)]) (by simp only [hb5]; kernel_rfl) ?_
        refine OpsT.pures (r := []) [4, 5, 6, 7] [0, 1, 5, 21] (S' := [(0, .string a0), (1, .string a1), (5, .bool y2), (21, .bool (decide ((a1.size : Int) > 200)))]) (by kernel_rfl) ?_
        refine OpsT.done ?_
        have e := someS h1
        subst e
        exact Qn.thenJ fun a ha => ⟨decide ((a1.size : Int) > 200), rfl, ha.keep [0, 1, 5, 21] (by kernel_rfl), hI⟩
    ·
      rintro a w ⟨x4, rfl, ha, hI⟩
      try dsimp only at h0
      refine CodT.of ?_ ha
      by_cases hb6 : x4 = true
      · rw [if_pos hb6] at h0
        refine CodT.yes' (b := x4) (by kernel_rfl) hb6 ?_
        refine CodT.seq ?_
        refine CodT.regionL [0, 1] (by kernel_rfl) ?_
        refine OpsT.pures (r := []) [0, 1] [4] (S' := [(4, .bool y2)]) (by kernel_rfl) ?_
        refine OpsT.done ?_
        refine Qn.then ?_
        refine CodT.ret ?_
        refine Qn.ret_then ?_
        have e := someS h0
        subst e
        refine Qn.keep [4] (S' := [(4, .bool y2)]) (by kernel_rfl) ?_
        exact post_ret (v := .bool y2) (fun a ha => RunRes.run (vs := [.bool y2]) (.tmp (t := 4) (by kernel_rfl) .nil) ha (by kernel_rfl)) ⟨rfl, hI⟩
      · rw [if_neg hb6] at h0
        refine CodT.no' (b := x4) (by kernel_rfl) (by simpa using hb6) ?_
        refine CodT.skip ?_
        refine Qn.then ?_
        refine CodT.seq ?_
        refine CodT.regionL [0, 1, 2, 3, 4] (by kernel_rfl) ?_
        refine OpsT.pures (r := [2, 3, 4]) [0, 1] [0, 1, 5, 23, 24] (S' := [(0, .string a0), (1, .string a1), (5, .bool y2), (23, .string a0), (24, .string a1)]) (by kernel_rfl) ?_
        obtain ⟨hg7, h0⟩ := guardS h0
        refine OpsT.cons (Does.yi (Yl.cat (d := 25) (T := 9) (x := a0) (y := a1) (by kernel_rfl) hg7) hI ?_)
        obtain ⟨y9, hc8, h0⟩ := bindS h0
        try dsimp only at h0
        refine OpsT.cons (Does.call (d := some 26) (n := 13) (vs := [.string (a0 ++ a1)]) (by kernel_rfl) en13 (c13 w0 w _ _ hI hT (a0 ++ a1) _ hc8) ?_)
        rintro e w ⟨rfl, hI⟩
        refine ⟨_, rfl, ?_⟩
        refine OpsT.pures (r := []) [4] [0, 1, 5, 6] (S' := [(0, .string a0), (1, .string a1), (5, .bool y2), (6, .int .i64 y9)]) (by kernel_rfl) ?_
        refine OpsT.done ?_
        refine Qn.then ?_
        refine CodT.seq ?_
        refine CodT.regionL [0, 1, 2, 3, 4, 5] (by kernel_rfl) ?_
        refine OpsT.pures (r := [1, 2, 3, 4, 5]) [0] [0, 1, 5, 6, 27] (S' := [(0, .string a0), (1, .string a1), (5, .bool y2), (6, .int .i64 y9), (27, .string a0)]) (by kernel_rfl) ?_
        obtain ⟨y11, hc10, h0⟩ := bindS h0
        try dsimp only at h0
        refine OpsT.cons (Does.call (d := some 28) (n := 13) (vs := [.string a0]) (by kernel_rfl) en13 (c13 w0 w _ _ hI hT a0 _ hc10) ?_)
        rintro e w ⟨rfl, hI⟩
        refine ⟨_, rfl, ?_⟩
        refine OpsT.pures (r := [3, 4, 5]) [2] [0, 1, 5, 6, 28, 29] (S' := [(0, .string a0), (1, .string a1), (5, .bool y2), (6, .int .i64 y9), (28, .int .i64 y11), (29, .string a1)]) (by kernel_rfl) ?_
        obtain ⟨y13, hc12, h0⟩ := bindS h0
        try dsimp only at h0
        refine OpsT.cons (Does.call (d := some 30) (n := 13) (vs := [.string a1]) (by kernel_rfl) en13 (c13 w0 w _ _ hI hT a1 _ hc12) ?_)
        rintro e w ⟨rfl, hI⟩
        refine ⟨_, rfl, ?_⟩
        refine OpsT.pures (r := []) [4, 5] [0, 1, 5, 6, 7] (S' := [(0, .string a0), (1, .string a1), (5, .bool y2), (6, .int .i64 y9), (7, .int .i64 (wi64 (y11 + y13)))]) (by kernel_rfl) ?_
        refine OpsT.done ?_
        refine Qn.then ?_
        refine CodT.seq ?_
        refine CodT.regionL [0, 1, 2] (by kernel_rfl) ?_
        refine OpsT.pures (r := [1, 2]) [0] [0, 1, 5, 6, 7, 32] (S' := [(0, .string a0), (1, .string a1), (5, .bool y2), (6, .int .i64 y9), (7, .int .i64 (wi64 (y11 + y13))), (32, .string a0)]) (by kernel_rfl) ?_
        obtain ⟨y15, hc14, h0⟩ := bindS h0
        try dsimp only at h0
        refine OpsT.cons (Does.call (d := some 33) (n := 14) (vs := [.string a0]) (by kernel_rfl) en14 (c14 w0 w _ _ hI hT a0 _ hc14) ?_)
        rintro e w ⟨rfl, hI⟩
        refine ⟨_, rfl, ?_⟩
        refine OpsT.pures (r := []) [2] [0, 1, 5, 6, 7, 8] (S' := [(0, .string a0), (1, .string a1), (5, .bool y2), (6, .int .i64 y9), (7, .int .i64 (wi64 (y11 + y13))), (8, .bool y15)]) (by kernel_rfl) ?_
        refine OpsT.done ?_
        refine Qn.then ?_
        refine CodT.seq ?_
        refine CodT.regionL [0, 1, 2] (by kernel_rfl) ?_
        refine OpsT.pures (r := [1, 2]) [0] [0, 1, 5, 6, 7, 8, 34] (S' := [(0, .string a0), (1, .string a1), (5, .bool y2), (6, .int .i64 y9), (7, .int .i64 (wi64 (y11 + y13))), (8, .bool y15), (34, .string a1)]) (by kernel_rfl) ?_
        obtain ⟨y17, hc16, h0⟩ := bindS h0
        try dsimp only at h0
        refine OpsT.cons (Does.call (d := some 35) (n := 14) (vs := [.string a1]) (by kernel_rfl) en14 (c14 w0 w _ _ hI hT a1 _ hc16) ?_)
        rintro e w ⟨rfl, hI⟩
        refine ⟨_, rfl, ?_⟩
        refine OpsT.pures (r := []) [2] [0, 1, 5, 6, 7, 8, 9] (S' := [(0, .string a0), (1, .string a1), (5, .bool y2), (6, .int .i64 y9), (7, .int .i64 (wi64 (y11 + y13))), (8, .bool y15), (9, .bool y17)]) (by kernel_rfl) ?_
        refine OpsT.done ?_
        refine Qn.then ?_
        obtain ⟨r1, h1, h0⟩ := bindS h0
        refine CodT.meet (fun a w => .inr () = r1 ∧ Fr 123 [(0, .string a0), (1, .string a1), (5, .bool y2), (6, .int .i64 y9), (7, .int .i64 (wi64 (y11 + y13))), (8, .bool y15), (9, .bool y17)] a ∧ Inv w0 Z w A) ?_ ?_
        ·
          refine CodT.seq ?_
          refine CodT.regionL [0] (by kernel_rfl) ?_
          refine OpsT.pures (r := []) [0] [0, 1, 5, 6, 7, 8, 9, 36] (S' := [(0, .string a0), (1, .string a1), (5, .bool y2), (6, .int .i64 y9), (7, .int .i64 (wi64 (y11 + y13))), (8, .bool y15), (9, .bool y17), (36, .bool y15)]) (by kernel_rfl) ?_
          refine OpsT.done ?_
          refine Qn.then ?_
          by_cases hb18 : y15 = true
          · rw [if_pos hb18] at h1
            refine CodT.yes' (b := y15) (by kernel_rfl) hb18 ?_
            refine CodT.seq ?_
            refine CodT.regionL [0] (by kernel_rfl) ?_
            refine OpsT.pures (r := []) [0] [0, 1, 5, 6, 7, 8, 9, 10] (S' := [(0, .string a0), (1, .string a1), (5, .bool y2), (6, .int .i64 y9), (7, .int .i64 (wi64 (y11 + y13))), (8, .bool y15), (9, .bool y17), (10, .int .i64 0)]) (by kernel_rfl) ?_
            refine OpsT.done ?_
            refine Qn.then ?_
            refine CodT.block ?_
            refine (fun a ha => wp_loopN (fun k a w => ∃ (x19 : Int), law03_NameParts.l0 a0 k x19 = some r1 ∧ Fr 123 [(0, .string a0), (1, .string a1), (5, .bool y2), (6, .int .i64 y9), (7, .int .i64 (wi64 (y11 + y13))), (8, .bool y15), (9, .bool y17), (10, .int .i64 x19)] a ∧ Inv w0 Z w A) ?_ FU a w ⟨0, h1, ha.keep [0, 1, 5, 6, 7, 8, 9, 10] (by kernel_rfl), hI⟩)
            clear h1 hI
            rintro k a w ⟨x19, h1, ha, hI⟩
            rcases k with _ | k
            · cases h1
            simp only [law03_NameParts.l0] at h1
            refine CodT.of ?_ ha
            refine CodT.seq ?_
            refine CodT.seq ?_
            refine CodT.regionL [0, 1, 2, 3] (by kernel_rfl) ?_
            refine OpsT.pures (r := []) [0, 1, 2, 3] [0, 1, 5, 6, 7, 8, 9, 10, 40] (S' := [(0, .string a0), (1, .string a1), (5, .bool y2), (6, .int .i64 y9), (7, .int .i64 (wi64 (y11 + y13))), (8, .bool y15), (9, .bool y17), (10, .int .i64 x19), (40, .bool (decide (x19 < (a0.size : Int))))]) (by kernel_rfl) ?_
            refine OpsT.done ?_
            refine Qn.then ?_
            by_cases hb20 : (decide (x19 < (a0.size : Int))) = true
            · rw [if_pos hb20] at h1
              refine CodT.yes' (b := decide (x19 < (a0.size : Int))) (by kernel_rfl) hb20 ?_
              refine CodT.skip ?_
              refine Qn.then ?_
              refine CodT.seq ?_
              refine CodT.block ?_
              obtain ⟨r2, h2, h1⟩ := bindS h1
              refine CodT.meet (fun a w => ∃ (x21 : Bool), x21 = r2 ∧ Fr 123 [(0, .string a0), (1, .string a1), (5, .bool y2), (6, .int .i64 y9), (7, .int .i64 (wi64 (y11 + y13))), (8, .bool y15), (9, .bool y17), (10, .int .i64 x19), (69, .bool x21)] a ∧ Inv w0 Z w A) ?_ ?_
              ·
                refine CodT.regionL [0, 1, 2, 3, 4, 5, 6, 7, 8, 9, 10, 11, 12, 13, 14, 15, 16, 17, 18, 19, 20, 21, 22, 23, 24, 25, 26] (by kernel_rfl) ?_
                refine OpsT.pures (r := [2, 3, 4, 5, 6, 7, 8, 9, 10, 11, 12, 13, 14, 15, 16, 17, 18, 19, 20, 21, 22, 23, 24, 25, 26]) [0, 1] [0, 1, 5, 6, 7, 8, 9, 10, 43, 44] (S' := [(0, .string a0), (1, .string a1), (5, .bool y2), (6, .int .i64 y9), (7, .int .i64 (wi64 (y11 + y13))), (8, .bool y15), (9, .bool y17), (10, .int .i64 x19), (43, .string a0), (44, .int .i64 x19)]) (by kernel_rfl) ?_
                obtain ⟨hg22, h2⟩ := guardS h2
                refine OpsT.cons (Does.yi (Yl.indexStr (d := 45) (T := 9) (k := .i64) (j := x19) (s := a0) (by kernel_rfl) Go.Proofs.Tryd.underlying9 hg22.1 hg22.2) hI ?_)
                refine OpsT.pures (r := [5, 6, 7, 8, 9, 10, 11, 12, 13, 14, 15, 16, 17, 18, 19, 20, 21, 22, 23, 24, 25, 26]) [3, 4] [0, 1, 5, 6, 7, 8, 9, 10, 47] (S' := [(0, .string a0), (1, .string a1), (5, .bool y2), (6, .int .i64 y9), (7, .int .i64 (wi64 (y11 + y13))), (8, .bool y15), (9, .bool y17), (10, .int .i64 x19), (47, .bool ((bt a0 x19) == 47))]) (by kernel_rfl) ?_
                by_cases hb23 : ((bt a0 x19) == 47) = true
                · rw [if_pos hb23] at h2
                  refine OpsT.keep [0, 1, 5, 6, 7, 8, 9, 10, 47] (S' := [(0, .string a0), (1, .string a1), (5, .bool y2), (6, .int .i64 y9), (7, .int .i64 (wi64 (y11 + y13))), (8, .bool y15), (9, .bool y17), (10, .int .i64 x19), (47, .bool true)]) (by simp only [hb23]; kernel_rfl) ?_
                  refine OpsT.pures (r := []) [5, 6, 7, 8, 9, 10, 11, 12, 13, 14, 15, 16, 17, 18, 19, 20, 21, 22, 23, 24, 25, 26] [0, 1, 5, 6, 7, 8, 9, 10, 69] (S' := [(0, .string a0), (1, .string a1), (5, .bool y2), (6, .int .i64 y9), (7, .int .i64 (wi64 (y11 + y13))), (8, .bool y15), (9, .bool y17), (10, .int .i64 x19), (69, .bool true)]) (by kernel_rfl) ?_
                  refine OpsT.done ?_
                  have e := someS h2
                  subst e
                  exact Qn.thenJ fun a ha => ⟨true, rfl, ha.keep [0, 1, 5, 6, 7, 8, 9, 10, 69] (by kernel_rfl), hI⟩
                · rw [if_neg hb23] at h2
                  have hb23 : ((bt a0 x19) == 47) = false := by simpa using hb23
                  refine OpsT.keep [0, 1, 5, 6, 7, 8, 9, 10, 47] (S' := [(0, .string a0), (1, .string a1), (5, .bool y2), (6, .int .i64 y9), (7, .int .i64 (wi64 (y11 + y13))), (8, .bool y15), (9, .bool y17), (10, .int .i64 x19), (47, .bool false)]) (by simp only [hb23]; kernel_rfl) ?_
                  refine OpsT.pures (r := [7, 8, 9, 10, 11, 12, 13, 14, 15, 16, 17, 18, 19, 20, 21, 22, 23, 24, 25, 26]) [5, 6] [0, 1, 5, 6, 7, 8, 9, 10, 47, 48, 49] (S' := [(0, .string a0), (1, .string a1), (5, .bool y2), (6, .int .i64 y9), (7, .int .i64 (wi64 (y11 + y13))), (8, .bool y15), (9, .bool y17), (10, .int .i64 x19), (47, .bool false), (48, .string a0), (49, .int .i64 x19)]) (by kernel_rfl) ?_
                  obtain ⟨hg24, h2⟩ := guardS h2
                  refine OpsT.cons (Does.yi (Yl.indexStr (d := 50) (T := 9) (k := .i64) (j := x19) (s := a0) (by kernel_rfl) Go.Proofs.Tryd.underlying9 hg24.1 hg24.2) hI ?_)
                  refine OpsT.pures (r := [11, 12, 13, 14, 15, 16, 17, 18, 19, 20, 21, 22, 23, 24, 25, 26]) [8, 9, 10] [0, 1, 5, 6, 7, 8, 9, 10, 53] (S' := [(0, .string a0), (1, .string a1), (5, .bool y2), (6, .int .i64 y9), (7, .int .i64 (wi64 (y11 + y13))), (8, .bool y15), (9, .bool y17), (10, .int .i64 x19), (53, .bool (decide ((bt a0 x19) < 32)))]) (by kernel_rfl) ?_
                  by_cases hb25 : (decide ((bt a0 x19) < 32)) = true
                  · rw [if_pos hb25] at h2
                    refine OpsT.keep [0, 1, 5, 6, 7, 8, 9, 10, 53] (S' := [(0, .string a0), (1, .string a1), (5, .bool y2), (6, .int .i64 y9), (7, .int .i64 (wi64 (y11 + y13))), (8, .bool y15), (9, .bool y17), (10, .int .i64 x19), (53, .bool true)]) (by simp only [hb25]; kernel_rfl) ?_
                    refine OpsT.pures (r := []) [11, 12, 13, 14, 15, 16, 17, 18, 19, 20, 21, 22, 23, 24, 25, 26] [0, 1, 5, 6, 7, 8, 9, 10, 69] (S' := [(0, .string a0), (1, .string a1), (5, .bool y2), (6, .int .i64 y9), (7, .int .i64 (wi64 (y11 + y13))), (8, .bool y15), (9, .bool y17), (10, .int .i64 x19), (69, .bool true)]) (by kernel_rfl) ?_
                    refine OpsT.done ?_
                    have e := someS h2
                    subst e
                    exact Qn.thenJ fun a ha => ⟨true, rfl, ha.keep [0, 1, 5, 6, 7, 8, 9, 10, 69] (by kernel_rfl), hI⟩
                  · rw [if_neg hb25] at h2
                    have hb25 : (decide ((bt a0 x19) < 32)) = false := by simpa using hb25
                    refine OpsT.keep [0, 1, 5, 6, 7, 8, 9, 10, 53] (S' := [(0, .string a0), (1, .string a1), (5, .bool y2), (6, .int .i64 y9), (7, .int .i64 (wi64 (y11 + y13))), (8, .bool y15), (9, .bool y17), (10, .int .i64 x19), (53, .bool false)]) (by simp only [hb25]; kernel_rfl) ?_
                    refine OpsT.pures (r := [13, 14, 15, 16, 17, 18, 19, 20, 21, 22, 23, 24, 25, 26]) [11, 12] [0, 1, 5, 6, 7, 8, 9, 10, 53, 54, 55] (S' := [(0, .string a0), (1, .string a1), (5, .bool y2), (6, .int .i64 y9), (7, .int .i64 (wi64 (y11 + y13))), (8, .bool y15), (9, .bool y17), (10, .int .i64 x19), (53, .bool false), (54, .string a0), (55, .int .i64 x19)]) (by kernel_rfl) ?_
                    obtain ⟨hg26, h2⟩ := guardS h2
                    refine OpsT.cons (Does.yi (Yl.indexStr (d := 56) (T := 9) (k := .i64) (j := x19) (s := a0) (by kernel_rfl) Go.Proofs.Tryd.underlying9 hg26.1 hg26.2) hI ?_)
                    refine OpsT.pures (r := [16, 17, 18, 19, 20, 21, 22, 23, 24, 25, 26]) [14, 15] [0, 1, 5, 6, 7, 8, 9, 10, 53, 58] (S' := [(0, .string a0), (1, .string a1), (5, .bool y2), (6, .int .i64 y9), (7, .int .i64 (wi64 (y11 + y13))), (8, .bool y15), (9, .bool y17), (10, .int .i64 x19), (53, .bool false), (58, .bool ((bt a0 x19) == 32))]) (by kernel_rfl) ?_
                    by_cases hb27 : ((bt a0 x19) == 32) = true
                    · rw [if_pos hb27] at h2
                      refine OpsT.keep [0, 1, 5, 6, 7, 8, 9, 10, 53, 58] (S' := [(0, .string a0), (1, .string a1), (5, .bool y2), (6, .int .i64 y9), (7, .int .i64 (wi64 (y11 + y13))), (8, .bool y15), (9, .bool y17), (10, .int .i64 x19), (53, .bool false), (58, .bool true)]) (by simp only [hb27]; kernel_rfl) ?_
                      refine OpsT.pures (r := [19, 20, 21, 22, 23, 24, 25, 26]) [16, 17, 18] [0, 1, 5, 6, 7, 8, 9, 10, 53, 58, 61] (S' := [(0, .string a0), (1, .string a1), (5, .bool y2), (6, .int .i64 y9), (7, .int .i64 (wi64 (y11 + y13))), (8, .bool y15), (9, .bool y17), (10, .int .i64 x19), (53, .bool false), (58, .bool true), (61, .bool (x19 == 0))]) (by kernel_rfl) ?_
                      by_cases hb28 : (x19 == 0) = true
                      · rw [if_pos hb28] at h2
                        refine OpsT.keep [0, 1, 5, 6, 7, 8, 9, 10, 53, 58, 61] (S' := [(0, .string a0), (1, .string a1), (5, .bool y2), (6, .int .i64 y9), (7, .int .i64 (wi64 (y11 + y13))), (8, .bool y15), (9, .bool y17), (10, .int .i64 x19), (53, .bool false), (58, .bool true), (61, .bool true)]) (by simp only [hb28]; kernel_rfl) ?_
                        refine OpsT.pures (r := []) [19, 20, 21, 22, 23, 24, 25, 26] [0, 1, 5, 6, 7, 8, 9, 10, 69] (S' := [(0, .string a0), (1, .string a1), (5, .bool y2), (6, .int .i64 y9), (7, .int .i64 (wi64 (y11 + y13))), (8, .bool y15), (9, .bool y17), (10, .int .i64 x19), (69, .bool true)]) (by kernel_rfl) ?_
                        refine OpsT.done ?_
                        have e := someS h2
                        subst e
                        exact Qn.thenJ fun a ha => ⟨true, rfl, ha.keep [0, 1, 5, 6, 7, 8, 9, 10, 69] (by kernel_rfl), hI⟩
                      · rw [if_neg hb28] at h2
                        have hb28 : (x19 == 0) = false := by simpa using hb28
                        refine OpsT.keep [0, 1, 5, 6, 7, 8, 9, 10, 53, 58, 61] (S' := [(0, .string a0), (1, .string a1), (5, .bool y2), (6, .int .i64 y9), (7, .int .i64 (wi64 (y11 + y13))), (8, .bool y15), (9, .bool y17), (10, .int .i64 x19), (53, .bool false), (58, .bool true), (61, .bool false)]) (by simp only [hb28]; kernel_rfl) ?_
                        refine OpsT.pures (r := []) [19, 20, 21, 22, 23, 24, 25, 26] [0, 1, 5, 6, 7, 8, 9, 10, 69] (S' := [(0, .string a0), (1, .string a1), (5, .bool y2), (6, .int .i64 y9), (7, .int .i64 (wi64 (y11 + y13))), (8, .bool y15), (9, .bool y17), (10, .int .i64 x19), (69, .bool (x19 == (wi64 ((a0.size : Int) - 1))))]) (by kernel_rfl) ?_
                        refine OpsT.done ?_
                        have e := someS h2
                        subst e
                        exact Qn.thenJ fun a ha => ⟨x19 == (wi64 ((a0.size : Int) - 1)), rfl, ha.keep [0, 1, 5, 6, 7, 8, 9, 10, 69] (by kernel_rfl), hI⟩
                    · rw [if_neg hb27] at h2
                      have hb27 : ((bt a0 x19) == 32) = false := by simpa using hb27
                      refine OpsT.keep [0, 1, 5, 6, 7, 8, 9, 10, 53, 58] (S' := [(0, .string a0), (1, .string a1), (5, .bool y2), (6, .int .i64 y9), (7, .int .i64 (wi64 (y11 + y13))), (8, .bool y15), (9, .bool y17), (10, .int .i64 x19), (53, .bool false), (58, .bool false)]) (by simp only [hb27]; kernel_rfl) ?_
                      refine OpsT.pures (r := []) [16, 17, 18, 19, 20, 21, 22, 23, 24, 25, 26] [0, 1, 5, 6, 7, 8, 9, 10, 69] (S' := [(0, .string a0), (1, .string a1), (5, .bool y2), (6, .int .i64 y9), (7, .int .i64 (wi64 (y11 + y13))), (8, .bool y15), (9, .bool y17), (10, .int .i64 x19), (69, .bool false)]) (by kernel_rfl) ?_
                      refine OpsT.done ?_
                      have e := someS h2
                      subst e
                      exact Qn.thenJ fun a ha => ⟨false, rfl, ha.keep [0, 1, 5, 6, 7, 8, 9, 10, 69] (by kernel_rfl), hI⟩
              ·
                rintro a w ⟨x21, rfl, ha, hI⟩
                try dsimp only at h1
                refine CodT.of ?_ ha
                by_cases hb29 : x21 = true
                · rw [if_pos hb29] at h1
                  refine CodT.yes' (b := x21) (by kernel_rfl) hb29 ?_
                  refine CodT.seq ?_
                  refine CodT.regionL [0] (by kernel_rfl) ?_
                  refine OpsT.pures (r := []) [0] [4] (S' := [(4, .bool false)]) (by kernel_rfl) ?_
                  refine OpsT.done ?_
                  refine Qn.then ?_
                  refine CodT.ret ?_
                  refine Qn.block_ret ?_
                  refine Qn.ret_then ?_
                  refine Qn.ret_then ?_
                  refine Qn.block_ret ?_
                  refine Qn.ret_then ?_
                  have e := someS h1
                  subst e
                  try dsimp only at h0
                  have e := someS h0
                  subst e
                  refine Qn.keep [4] (S' := [(4, .bool false)]) (by kernel_rfl) ?_
                  exact post_ret (v := .bool false) (fun a ha => RunRes.run (vs := [.bool false]) (.tmp (t := 4) (by kernel_rfl) .nil) ha (by kernel_rfl)) ⟨rfl, hI⟩
                · rw [if_neg hb29] at h1
                  refine CodT.no' (b := x21) (by kernel_rfl) (by simpa using hb29) ?_
                  refine CodT.skip ?_
                  refine Qn.block_normal ?_
                  refine Qn.then ?_
                  refine CodT.regionL [0, 1, 2] (by kernel_rfl) ?_
                  refine OpsT.pures (r := []) [0, 1, 2] [0, 1, 5, 6, 7, 8, 9, 10] (S' := [(0, .string a0), (1, .string a1), (5, .bool y2), (6, .int .i64 y9), (7, .int .i64 (wi64 (y11 + y13))), (8, .bool y15), (9, .bool y17), (10, .int .i64 (wi64 (x19 + 1)))]) (by kernel_rfl) ?_
                  refine OpsT.done ?_
                  exact Qn.thenJ fun a ha => ⟨k, Nat.lt_succ_self k, wi64 (x19 + 1), h1, ha.keep [0, 1, 5, 6, 7, 8, 9, 10] (by kernel_rfl), hI⟩
            · rw [if_neg hb20] at h1
              refine CodT.no' (b := decide (x19 < (a0.size : Int))) (by kernel_rfl) (by simpa using hb20) ?_
              refine CodT.exit ?_
              refine Qn.exit_then ?_
              refine Qn.exit_then ?_
              refine Qn.block ?_
              have e := someS h1
              subst e
              exact Qn.thenJ fun a ha => ⟨rfl, ha.keep [0, 1, 5, 6, 7, 8, 9] (by kernel_rfl), hI⟩
          · rw [if_neg hb18] at h1
            refine CodT.no' (b := y15) (by kernel_rfl) (by simpa using hb18) ?_
            refine CodT.skip ?_
            have e := someS h1
            subst e
            exact Qn.thenJ fun a ha => ⟨rfl, ha.keep [0, 1, 5, 6, 7, 8, 9] (by kernel_rfl), hI⟩
        ·
          rintro a w ⟨rfl, ha, hI⟩
          try dsimp only at h0
          refine CodT.of ?_ ha
          obtain ⟨r1, h1, h0⟩ := bindS h0
          refine CodT.meet (fun a w => ∃ (x30 : Bool), x30 = r1 ∧ Fr 123 [(4, .bool x30)] a ∧ Inv w0 Z w A) ?_ ?_
          ·
            refine CodT.regionL [0, 1, 2, 3, 4, 5, 6, 7, 8, 9, 10, 11, 12, 13, 14, 15, 16, 17, 18, 19, 20, 21, 22, 23, 24, 25, 26, 27, 28, 29, 30, 31, 32, 33, 34, 35, 36, 37, 38, 39, 40, 41, 42, 43, 44, 45, 46, 47, 48, 49, 50, 51, 52, 53] (by kernel_rfl) ?_
            refine OpsT.pures (r := [2, 3, 4, 5, 6, 7, 8, 9, 10, 11, 12, 13, 14, 15, 16, 17, 18, 19, 20, 21, 22, 23, 24, 25, 26, 27, 28, 29, 30, 31, 32, 33, 34, 35, 36, 37, 38, 39, 40, 41, 42, 43, 44, 45, 46, 47, 48, 49, 50, 51, 52, 53]) [0, 1] [0, 1, 6, 7, 8, 9, 71] (S' := [(0, .string a0), (1, .string a1), (6, .int .i64 y9), (7, .int .i64 (wi64 (y11 + y13))), (8, .bool y15), (9, .bool y17), (71, .bool y2)]) (by kernel_rfl) ?_
            by_cases hb31 : y2 = true
            · rw [if_pos hb31] at h1
              refine OpsT.keep [0, 1, 6, 7, 8, 9, 71] (S' := [(0, .string a0), (1, .string a1), (6, .int .i64 y9), (7, .int .i64 (wi64 (y11 + y13))), (8, .bool y15), (9, .bool y17), (71, .bool true)]) (by simp only [hb31]; kernel_rfl) ?_
              refine OpsT.pures (r := [7, 8, 9, 10, 11, 12, 13, 14, 15, 16, 17, 18, 19, 20, 21, 22, 23, 24, 25, 26, 27, 28, 29, 30, 31, 32, 33, 34, 35, 36, 37, 38, 39, 40, 41, 42, 43, 44, 45, 46, 47, 48, 49, 50, 51, 52, 53]) [2, 3, 4, 5, 6] [0, 1, 6, 7, 8, 9, 76] (S' := [(0, .string a0), (1, .string a1), (6, .int .i64 y9), (7, .int .i64 (wi64 (y11 + y13))), (8, .bool y15), (9, .bool y17), (76, .bool (decide (y9 ≤ (wi64 (y11 + y13)))))]) (by kernel_rfl) ?_
              by_cases hb32 : (decide (y9 ≤ (wi64 (y11 + y13)))) = true
              · rw [if_pos hb32] at h1
                refine OpsT.keep [0, 1, 6, 7, 8, 9, 76] (S' := [(0, .string a0), (1, .string a1), (6, .int .i64 y9), (7, .int .i64 (wi64 (y11 + y13))), (8, .bool y15), (9, .bool y17), (76, .bool true)]) (by simp only [hb32]; kernel_rfl) ?_
                refine OpsT.pures (r := [10, 11, 12, 13, 14, 15, 16, 17, 18, 19, 20, 21, 22, 23, 24, 25, 26, 27, 28, 29, 30, 31, 32, 33, 34, 35, 36, 37, 38, 39, 40, 41, 42, 43, 44, 45, 46, 47, 48, 49, 50, 51, 52, 53]) [7, 8, 9] [0, 1, 6, 7, 8, 9, 76, 79] (S' := [(0, .string a0), (1, .string a1), (6, .int .i64 y9), (7, .int .i64 (wi64 (y11 + y13))), (8, .bool y15), (9, .bool y17), (76, .bool true), (79, .bool (!y15))]) (by kernel_rfl) ?_
                by_cases hb33 : (!y15) = true
                · rw [if_pos hb33] at h1
                  refine OpsT.keep [0, 1, 6, 7, 8, 9, 76, 79] (S' := [(0, .string a0), (1, .string a1), (6, .int .i64 y9), (7, .int .i64 (wi64 (y11 + y13))), (8, .bool y15), (9, .bool y17), (76, .bool true), (79, .bool true)]) (by simp only [hb33]; kernel_rfl) ?_
                  refine OpsT.pures (r := [23, 24, 25, 26, 27, 28, 29, 30, 31, 32, 33, 34, 35, 36, 37, 38, 39, 40, 41, 42, 43, 44, 45, 46, 47, 48, 49, 50, 51, 52, 53]) [10, 11, 12, 13, 14, 15, 16, 17, 18, 19, 20, 21, 22] [0, 1, 7, 9, 89, 92] (S' := [(0, .string a0), (1, .string a1), (7, .int .i64 (wi64 (y11 + y13))), (9, .bool y17), (89, .bool true), (92, .bool (!y15))]) (by kernel_rfl) ?_
                  by_cases hb34 : (!y15) = true
                  · rw [if_pos hb34] at h1
                    refine OpsT.keep [0, 1, 7, 9, 89, 92] (S' := [(0, .string a0), (1, .string a1), (7, .int .i64 (wi64 (y11 + y13))), (9, .bool y17), (89, .bool true), (92, .bool true)]) (by simp only [hb34]; kernel_rfl) ?_
                    refine OpsT.pures (r := [42, 43, 44, 45, 46, 47, 48, 49, 50, 51, 52, 53]) [23, 24, 25, 26, 27, 28, 29, 30, 31, 32, 33, 34, 35, 36, 37, 38, 39, 40, 41] [0, 107, 110, 111] (S' := [(0, .string a0), (107, .bool true), (110, .bool ((a0.size : Int) == 0)), (111, .string a0)]) (by kernel_rfl) ?_
                    obtain ⟨y36, hc35, h1⟩ := bindS h1
                    try dsimp only at h1
                    refine OpsT.cons (Does.call (d := some 112) (n := 13) (vs := [.string a0]) (by kernel_rfl) en13 (c13 w0 w _ _ hI hT a0 _ hc35) ?_)
                    rintro e w ⟨rfl, hI⟩
                    refine ⟨_, rfl, ?_⟩
                    refine OpsT.pures (r := [47, 48, 49, 50, 51, 52, 53]) [43, 44, 45, 46] [0, 116] (S' := [(0, .string a0), (116, .bool (((a0.size : Int) == 0) == (y36 == 0)))]) (by kernel_rfl) ?_
                    by_cases hb37 : (((a0.size : Int) == 0) == (y36 == 0)) = true
                    · rw [if_pos hb37] at h1
                      refine OpsT.keep [0, 116] (S' := [(0, .string a0), (116, .bool true)]) (by simp only [hb37]; kernel_rfl) ?_
                      refine OpsT.pures (r := [48, 49, 50, 51, 52, 53]) [47] [0, 116, 117] (S' := [(0, .string a0), (116, .bool true), (117, .string a0)]) (by kernel_rfl) ?_
                      obtain ⟨y39, hc38, h1⟩ := bindS h1
                      try dsimp only at h1
                      refine OpsT.cons (Does.call (d := some 118) (n := 13) (vs := [.string a0]) (by kernel_rfl) en13 (c13 w0 w _ _ hI hT a0 _ hc38) ?_)
                      rintro e w ⟨rfl, hI⟩
                      refine ⟨_, rfl, ?_⟩
                      refine OpsT.pures (r := []) [49, 50, 51, 52, 53] [4] (S' := [(4, .bool (decide (y39 ≤ (a0.size : Int))))]) (by kernel_rfl) ?_
                      refine OpsT.done ?_
                      have e := someS h1
                      subst e
                      exact Qn.thenJ fun a ha => ⟨decide (y39 ≤ (a0.size : Int)), rfl, ha.keep [4] (by kernel_rfl), hI⟩
                    · rw [if_neg hb37] at h1
                      have hb37 : (((a0.size : Int) == 0) == (y36 == 0)) = false := by simpa using hb37
                      refine OpsT.keep [0, 116] (S' := [(0, .string a0), (116, .bool false)]) (by simp only [hb37]; kernel_rfl) ?_
                      refine OpsT.pures (r := []) [47, 48, 49, 50, 51, 52, 53] [4] (S' := [(4, .bool false)]) (by kernel_rfl) ?_
                      refine OpsT.done ?_
                      have e := someS h1
                      subst e
                      exact Qn.thenJ fun a ha => ⟨false, rfl, ha.keep [4] (by kernel_rfl), hI⟩
                  · rw [if_neg hb34] at h1
                    have hb34 : (!y15) = false := by simpa using hb34
                    refine OpsT.keep [0, 1, 7, 9, 89, 92] (S' := [(0, .string a0), (1, .string a1), (7, .int .i64 (wi64 (y11 + y13))), (9, .bool y17), (89, .bool true), (92, .bool false)]) (by simp only [hb34]; kernel_rfl) ?_
                    refine OpsT.pures (r := [27, 28, 29, 30, 31, 32, 33, 34, 35, 36, 37, 38, 39, 40, 41, 42, 43, 44, 45, 46, 47, 48, 49, 50, 51, 52, 53]) [23, 24, 25, 26] [0, 1, 7, 89, 96] (S' := [(0, .string a0), (1, .string a1), (7, .int .i64 (wi64 (y11 + y13))), (89, .bool true), (96, .bool (!y17))]) (by kernel_rfl) ?_
                    by_cases hb40 : (!y17) = true
                    · rw [if_pos hb40] at h1
                      refine OpsT.keep [0, 1, 7, 89, 96] (S' := [(0, .string a0), (1, .string a1), (7, .int .i64 (wi64 (y11 + y13))), (89, .bool true), (96, .bool true)]) (by simp only [hb40]; kernel_rfl) ?_
                      refine OpsT.pures (r := [42, 43, 44, 45, 46, 47, 48, 49, 50, 51, 52, 53]) [27, 28, 29, 30, 31, 32, 33, 34, 35, 36, 37, 38, 39, 40, 41] [0, 107, 110, 111] (S' := [(0, .string a0), (107, .bool true), (110, .bool ((a0.size : Int) == 0)), (111, .string a0)]) (by kernel_rfl) ?_
                      obtain ⟨y42, hc41, h1⟩ := bindS h1
                      try dsimp only at h1
                      refine OpsT.cons (Does.call (d := some 112) (n := 13) (vs := [.string a0]) (by kernel_rfl) en13 (c13 w0 w _ _ hI hT a0 _ hc41) ?_)
                      rintro e w ⟨rfl, hI⟩
                      refine ⟨_, rfl, ?_⟩
                      refine OpsT.pures (r := [47, 48, 49, 50, 51, 52, 53]) [43, 44, 45, 46] [0, 116] (S' := [(0, .string a0), (116, .bool (((a0.size : Int) == 0) == (y42 == 0)))]) (by kernel_rfl) ?_
                      by_cases hb43 : (((a0.size : Int) == 0) == (y42 == 0)) = true
                      · rw [if_pos hb43] at h1
                        refine OpsT.keep [0, 116] (S' := [(0, .string a0), (116, .bool true)]) (by simp only [hb43]; kernel_rfl) ?_
                        refine OpsT.pures (r := [48, 49, 50, 51, 52, 53]) [47] [0, 116, 117] (S' := [(0, .string a0), (116, .bool true), (117, .string a0)]) (by kernel_rfl) ?_
                        obtain ⟨y45, hc44, h1⟩ := bindS h1
                        try dsimp only at h1
                        refine OpsT.cons (Does.call (d := some 118) (n := 13) (vs := [.string a0]) (by kernel_rfl) en13 (c13 w0 w _ _ hI hT a0 _ hc44) ?_)
                        rintro e w ⟨rfl, hI⟩
                        refine ⟨_, rfl, ?_⟩
                        refine OpsT.pures (r := []) [49, 50, 51, 52, 53] [4] (S' := [(4, .bool (decide (y45 ≤ (a0.size : Int))))]) (by kernel_rfl) ?_
                        refine OpsT.done ?_
                        have e := someS h1
                        subst e
                        exact Qn.thenJ fun a ha => ⟨decide (y45 ≤ (a0.size : Int)), rfl, ha.keep [4] (by kernel_rfl), hI⟩
                      · rw [if_neg hb43] at h1
                        have hb43 : (((a0.size : Int) == 0) == (y42 == 0)) = false := by simpa using hb43
                        refine OpsT.keep [0, 116] (S' := [(0, .string a0), (116, .bool false)]) (by simp only [hb43]; kernel_rfl) ?_
                        refine OpsT.pures (r := []) [47, 48, 49, 50, 51, 52, 53] [4] (S' := [(4, .bool false)]) (by kernel_rfl) ?_
                        refine OpsT.done ?_
                        have e := someS h1
                        subst e
                        exact Qn.thenJ fun a ha => ⟨false, rfl, ha.keep [4] (by kernel_rfl), hI⟩
                    · rw [if_neg hb40] at h1
                      have hb40 : (!y17) = false := by simpa using hb40
                      refine OpsT.keep [0, 1, 7, 89, 96] (S' := [(0, .string a0), (1, .string a1), (7, .int .i64 (wi64 (y11 + y13))), (89, .bool true), (96, .bool false)]) (by simp only [hb40]; kernel_rfl) ?_
                      refine OpsT.pures (r := [31, 32, 33, 34, 35, 36, 37, 38, 39, 40, 41, 42, 43, 44, 45, 46, 47, 48, 49, 50, 51, 52, 53]) [27, 28, 29, 30] [0, 1, 89, 100] (S' := [(0, .string a0), (1, .string a1), (89, .bool true), (100, .bool (decide ((wi64 (y11 + y13)) > 24)))]) (by kernel_rfl) ?_
                      by_cases hb46 : (decide ((wi64 (y11 + y13)) > 24)) = true
                      · rw [if_pos hb46] at h1
                        refine OpsT.keep [0, 1, 89, 100] (S' := [(0, .string a0), (1, .string a1), (89, .bool true), (100, .bool true)]) (by simp only [hb46]; kernel_rfl) ?_
                        refine OpsT.pures (r := [42, 43, 44, 45, 46, 47, 48, 49, 50, 51, 52, 53]) [31, 32, 33, 34, 35, 36, 37, 38, 39, 40, 41] [0, 107, 110, 111] (S' := [(0, .string a0), (107, .bool true), (110, .bool ((a0.size : Int) == 0)), (111, .string a0)]) (by kernel_rfl) ?_
                        obtain ⟨y48, hc47, h1⟩ := bindS h1
                        try dsimp only at h1
                        refine OpsT.cons (Does.call (d := some 112) (n := 13) (vs := [.string a0]) (by kernel_rfl) en13 (c13 w0 w _ _ hI hT a0 _ hc47) ?_)
                        rintro e w ⟨rfl, hI⟩
                        refine ⟨_, rfl, ?_⟩
                        refine OpsT.pures (r := [47, 48, 49, 50, 51, 52, 53]) [43, 44, 45, 46] [0, 116] (S' := [(0, .string a0), (116, .bool (((a0.size : Int) == 0) == (y48 == 0)))]) (by kernel_rfl) ?_
                        by_cases hb49 : (((a0.size : Int) == 0) == (y48 == 0)) = true
                        · rw [if_pos hb49] at h1
                          refine OpsT.keep [0, 116] (S' := [(0, .string a0), (116, .bool true)]) (by simp only [hb49]; kernel_rfl) ?_
                          refine OpsT.pures (r := [48, 49, 50, 51, 52, 53]) [47] [0, 116, 117] (S' := [(0, .string a0), (116, .bool true), (117, .string a0)]) (by kernel_rfl) ?_
                          obtain ⟨y51, hc50, h1⟩ := bindS h1
                          try dsimp only at h1
                          refine OpsT.cons (Does.call (d := some 118) (n := 13) (vs := [.string a0]) (by kernel_rfl) en13 (c13 w0 w _ _ hI hT a0 _ hc50) ?_)
                          rintro e w ⟨rfl, hI⟩
                          refine ⟨_, rfl, ?_⟩
                          refine OpsT.pures (r := []) [49, 50, 51, 52, 53] [4] (S' := [(4, .bool (decide (y51 ≤ (a0.size : Int))))]) (by kernel_rfl) ?_
                          refine OpsT.done ?_
                          have e := someS h1
                          subst e
                          exact Qn.thenJ fun a ha => ⟨decide (y51 ≤ (a0.size : Int)), rfl, ha.keep [4] (by kernel_rfl), hI⟩
                        · rw [if_neg hb49] at h1
                          have hb49 : (((a0.size : Int) == 0) == (y48 == 0)) = false := by simpa using hb49
                          refine OpsT.keep [0, 116] (S' := [(0, .string a0), (116, .bool false)]) (by simp only [hb49]; kernel_rfl) ?_
                          refine OpsT.pures (r := []) [47, 48, 49, 50, 51, 52, 53] [4] (S' := [(4, .bool false)]) (by kernel_rfl) ?_
                          refine OpsT.done ?_
                          have e := someS h1
                          subst e
                          exact Qn.thenJ fun a ha => ⟨false, rfl, ha.keep [4] (by kernel_rfl), hI⟩
                      · rw [if_neg hb46] at h1
                        have hb46 : (decide ((wi64 (y11 + y13)) > 24)) = false := by simpa using hb46
                        refine OpsT.keep [0, 1, 89, 100] (S' := [(0, .string a0), (1, .string a1), (89, .bool true), (100, .bool false)]) (by simp only [hb46]; kernel_rfl) ?_
                        refine OpsT.pures (r := [33, 34, 35, 36, 37, 38, 39, 40, 41, 42, 43, 44, 45, 46, 47, 48, 49, 50, 51, 52, 53]) [31, 32] [0, 89, 100, 101, 102] (S' := [(0, .string a0), (89, .bool true), (100, .bool false), (101, .string a0), (102, .string a1)]) (by kernel_rfl) ?_
                        obtain ⟨hg52, h1⟩ := guardS h1
                        refine OpsT.cons (Does.yi (Yl.cat (d := 103) (T := 9) (x := a0) (y := a1) (by kernel_rfl) hg52) hI ?_)
                        obtain ⟨y54, hc53, h1⟩ := bindS h1
                        try dsimp only at h1
                        refine OpsT.cons (Does.call (d := some 104) (n := 14) (vs := [.string (a0 ++ a1)]) (by kernel_rfl) en14 (c14 w0 w _ _ hI hT (a0 ++ a1) _ hc53) ?_)
                        rintro e w ⟨rfl, hI⟩
                        refine ⟨_, rfl, ?_⟩
                        refine OpsT.pures (r := [38, 39, 40, 41, 42, 43, 44, 45, 46, 47, 48, 49, 50, 51, 52, 53]) [35, 36, 37] [0, 107] (S' := [(0, .string a0), (107, .bool y54)]) (by kernel_rfl) ?_
                        by_cases hb55 : y54 = true
                        · rw [if_pos hb55] at h1
                          refine OpsT.keep [0, 107] (S' := [(0, .string a0), (107, .bool true)]) (by simp only [hb55]; kernel_rfl) ?_
                          refine OpsT.pures (r := [42, 43, 44, 45, 46, 47, 48, 49, 50, 51, 52, 53]) [38, 39, 40, 41] [0, 107, 110, 111] (S' := [(0, .string a0), (107, .bool true), (110, .bool ((a0.size : Int) == 0)), (111, .string a0)]) (by kernel_rfl) ?_
                          obtain ⟨y57, hc56, h1⟩ := bindS h1
                          try dsimp only at h1
                          refine OpsT.cons (Does.call (d := some 112) (n := 13) (vs := [.string a0]) (by kernel_rfl) en13 (c13 w0 w _ _ hI hT a0 _ hc56) ?_)
                          rintro e w ⟨rfl, hI⟩
                          refine ⟨_, rfl, ?_⟩
                          refine OpsT.pures (r := [47, 48, 49, 50, 51, 52, 53]) [43, 44, 45, 46] [0, 116] (S' := [(0, .string a0), (116, .bool (((a0.size : Int) == 0) == (y57 == 0)))]) (by kernel_rfl) ?_
                          by_cases hb58 : (((a0.size : Int) == 0) == (y57 == 0)) = true
                          · rw [if_pos hb58] at h1
                            refine OpsT.keep [0, 116] (S' := [(0, .string a0), (116, .bool true)]) (by simp only [hb58]; kernel_rfl) ?_
                            refine OpsT.pures (r := [48, 49, 50, 51, 52, 53]) [47] [0, 116, 117] (S' := [(0, .string a0), (116, .bool true), (117, .string a0)]) (by kernel_rfl) ?_
                            obtain ⟨y60, hc59, h1⟩ := bindS h1
                            try dsimp only at h1
                            refine OpsT.cons (Does.call (d := some 118) (n := 13) (vs := [.string a0]) (by kernel_rfl) en13 (c13 w0 w _ _ hI hT a0 _ hc59) ?_)
                            rintro e w ⟨rfl, hI⟩
                            refine ⟨_, rfl, ?_⟩
                            refine OpsT.pures (r := []) [49, 50, 51, 52, 53] [4] (S' := [(4, .bool (decide (y60 ≤ (a0.size : Int))))]) (by kernel_rfl) ?_
                            refine OpsT.done ?_
                            have e := someS h1
                            subst e
                            exact Qn.thenJ fun a ha => ⟨decide (y60 ≤ (a0.size : Int)), rfl, ha.keep [4] (by kernel_rfl), hI⟩
                          · rw [if_neg hb58] at h1
                            have hb58 : (((a0.size : Int) == 0) == (y57 == 0)) = false := by simpa using hb58
                            refine OpsT.keep [0, 116] (S' := [(0, .string a0), (116, .bool false)]) (by simp only [hb58]; kernel_rfl) ?_
                            refine OpsT.pures (r := []) [47, 48, 49, 50, 51, 52, 53] [4] (S' := [(4, .bool false)]) (by kernel_rfl) ?_
                            refine OpsT.done ?_
                            have e := someS h1
                            subst e
                            exact Qn.thenJ fun a ha => ⟨false, rfl, ha.keep [4] (by kernel_rfl), hI⟩
                        · rw [if_neg hb55] at h1
                          have hb55 : y54 = false := by simpa using hb55
                          refine OpsT.keep [0, 107] (S' := [(0, .string a0), (107, .bool false)]) (by simp only [hb55]; kernel_rfl) ?_
                          refine OpsT.pures (r := []) [38, 39, 40, 41, 42, 43, 44, 45, 46, 47, 48, 49, 50, 51, 52, 53] [4] (S' := [(4, .bool false)]) (by kernel_rfl) ?_
                          refine OpsT.done ?_
                          have e := someS h1
                          subst e
                          exact Qn.thenJ fun a ha => ⟨false, rfl, ha.keep [4] (by kernel_rfl), hI⟩
                · rw [if_neg hb33] at h1
                  have hb33 : (!y15) = false := by simpa using hb33
                  refine OpsT.keep [0, 1, 6, 7, 8, 9, 76, 79] (S' := [(0, .string a0), (1, .string a1), (6, .int .i64 y9), (7, .int .i64 (wi64 (y11 + y13))), (8, .bool y15), (9, .bool y17), (76, .bool true), (79, .bool false)]) (by simp only [hb33]; kernel_rfl) ?_
                  refine OpsT.pures (r := [14, 15, 16, 17, 18, 19, 20, 21, 22, 23, 24, 25, 26, 27, 28, 29, 30, 31, 32, 33, 34, 35, 36, 37, 38, 39, 40, 41, 42, 43, 44, 45, 46, 47, 48, 49, 50, 51, 52, 53]) [10, 11, 12, 13] [0, 1, 6, 7, 8, 9, 76, 83] (S' := [(0, .string a0), (1, .string a1), (6, .int .i64 y9), (7, .int .i64 (wi64 (y11 + y13))), (8, .bool y15), (9, .bool y17), (76, .bool true), (83, .bool (!y17))]) (by kernel_rfl) ?_
                  by_cases hb61 : (!y17) = true
                  · rw [if_pos hb61] at h1
                    refine OpsT.keep [0, 1, 6, 7, 8, 9, 76, 83] (S' := [(0, .string a0), (1, .string a1), (6, .int .i64 y9), (7, .int .i64 (wi64 (y11 + y13))), (8, .bool y15), (9, .bool y17), (76, .bool true), (83, .bool true)]) (by simp only [hb61]; kernel_rfl) ?_
                    refine OpsT.pures (r := [23, 24, 25, 26, 27, 28, 29, 30, 31, 32, 33, 34, 35, 36, 37, 38, 39, 40, 41, 42, 43, 44, 45, 46, 47, 48, 49, 50, 51, 52, 53]) [14, 15, 16, 17, 18, 19, 20, 21, 22] [0, 1, 7, 9, 89, 92] (S' := [(0, .string a0), (1, .string a1), (7, .int .i64 (wi64 (y11 + y13))), (9, .bool y17), (89, .bool true), (92, .bool (!y15))]) (by kernel_rfl) ?_
                    by_cases hb62 : (!y15) = true
                    · rw [if_pos hb62] at h1
                      refine OpsT.keep [0, 1, 7, 9, 89, 92] (S' := [(0, .string a0), (1, .string a1), (7, .int .i64 (wi64 (y11 + y13))), (9, .bool y17), (89, .bool true), (92, .bool true)]) (by simp only [hb62]; kernel_rfl) ?_
                      refine OpsT.pures (r := [42, 43, 44, 45, 46, 47, 48, 49, 50, 51, 52, 53]) [23, 24, 25, 26, 27, 28, 29, 30, 31, 32, 33, 34, 35, 36, 37, 38, 39, 40, 41] [0, 107, 110, 111] (S' := [(0, .string a0), (107, .bool true), (110, .bool ((a0.size : Int) == 0)), (111, .string a0)]) (by kernel_rfl) ?_
                      obtain ⟨y64, hc63, h1⟩ := bindS h1
                      try dsimp only at h1
                      refine OpsT.cons (Does.call (d := some 112) (n := 13) (vs := [.string a0]) (by kernel_rfl) en13 (c13 w0 w _ _ hI hT a0 _ hc63) ?_)
                      rintro e w ⟨rfl, hI⟩
                      refine ⟨_, rfl, ?_⟩
                      refine OpsT.pures (r := [47, 48, 49, 50, 51, 52, 53]) [43, 44, 45, 46] [0, 116] (S' := [(0, .string a0), (116, .bool (((a0.size : Int) == 0) == (y64 == 0)))]) (by kernel_rfl) ?_
                      by_cases hb65 : (((a0.size : Int) == 0) == (y64 == 0)) = true
                      · rw [if_pos hb65] at h1
                        refine OpsT.keep [0, 116] (S' := [(0, .string a0), (116, .bool true)]) (by simp only [hb65]; kernel_rfl) ?_
                        refine OpsT.pures (r := [48, 49, 50, 51, 52, 53]) [47] [0, 116, 117] (S' := [(0, .string a0), (116, .bool true), (117, .string a0)]) (by kernel_rfl) ?_
                        obtain ⟨y67, hc66, h1⟩ := bindS h1
                        try dsimp only at h1
                        refine OpsT.cons (Does.call (d := some 118) (n := 13) (vs := [.string a0]) (by kernel_rfl) en13 (c13 w0 w _ _ hI hT a0 _ hc66) ?_)
                        rintro e w ⟨rfl, hI⟩
                        refine ⟨_, rfl, ?_⟩
                        refine OpsT.pures (r := []) [49, 50, 51, 52, 53] [4] (S' := [(4, .bool (decide (y67 ≤ (a0.size : Int))))]) (by kernel_rfl) ?_
                        refine OpsT.done ?_
                        have e := someS h1
                        subst e
                        exact Qn.thenJ fun a ha => ⟨decide (y67 ≤ (a0.size : Int)), rfl, ha.keep [4] (by kernel_rfl), hI⟩
                      · rw [if_neg hb65] at h1
                        have hb65 : (((a0.size : Int) == 0) == (y64 == 0)) = false := by simpa using hb65
                        refine OpsT.keep [0, 116] (S' := [(0, .string a0), (116, .bool false)]) (by simp only [hb65]; kernel_rfl) ?_
                        refine OpsT.pures (r := []) [47, 48, 49, 50, 51, 52, 53] [4] (S' := [(4, .bool false)]) (by kernel_rfl) ?_
                        refine OpsT.done ?_
                        have e := someS h1
                        subst e
                        exact Qn.thenJ fun a ha => ⟨false, rfl, ha.keep [4] (by kernel_rfl), hI⟩
                    · rw [if_neg hb62] at h1
                      have hb62 : (!y15) = false := by simpa using hb62
                      refine OpsT.keep [0, 1, 7, 9, 89, 92] (S' := [(0, .string a0), (1, .string a1), (7, .int .i64 (wi64 (y11 + y13))), (9, .bool y17), (89, .bool true), (92, .bool false)]) (by simp only [hb62]; kernel_rfl) ?_
                      refine OpsT.pures (r := [27, 28, 29, 30, 31, 32, 33, 34, 35, 36, 37, 38, 39, 40, 41, 42, 43, 44, 45, 46, 47, 48, 49, 50, 51, 52, 53]) [23, 24, 25, 26] [0, 1, 7, 89, 96] (S' := [(0, .string a0), (1, .string a1), (7, .int .i64 (wi64 (y11 + y13))), (89, .bool true), (96, .bool (!y17))]) (by kernel_rfl) ?_
                      by_cases hb68 : (!y17) = true
                      · rw [if_pos hb68] at h1
                        refine OpsT.keep [0, 1, 7, 89, 96] (S' := [(0, .string a0), (1, .string a1), (7, .int .i64 (wi64 (y11 + y13))), (89, .bool true), (96, .bool true)]) (by simp only [hb68]; kernel_rfl) ?_
                        refine OpsT.pures (r := [42, 43, 44, 45, 46, 47, 48, 49, 50, 51, 52, 53]) [27, 28, 29, 30, 31, 32, 33, 34, 35, 36, 37, 38, 39, 40, 41] [0, 107, 110, 111] (S' := [(0, .string a0), (107, .bool true), (110, .bool ((a0.size : Int) == 0)), (111, .string a0)]) (by kernel_rfl) ?_
                        obtain ⟨y70, hc69, h1⟩ := bindS h1
                        try dsimp only at h1
                        refine OpsT.cons (Does.call (d := some 112) (n := 13) (vs := [.string a0]) (by kernel_rfl) en13 (c13 w0 w _ _ hI hT a0 _ hc69) ?_)
                        rintro e w ⟨rfl, hI⟩
                        refine ⟨_, rfl, ?_⟩
                        refine OpsT.pures (r := [47, 48, 49, 50, 51, 52, 53]) [43, 44, 45, 46] [0, 116] (S' := [(0, .string a0), (116, .bool (((a0.size : Int) == 0) == (y70 == 0)))]) (by kernel_rfl) ?_
                        by_cases hb71 : (((a0.size : Int) == 0) == (y70 == 0)) = true
                        · rw [if_pos hb71] at h1
                          refine OpsT.keep [0, 116] (S' := [(0, .string a0), (116, .bool true)]) (by simp only [hb71]; kernel_rfl) ?_
                          refine OpsT.pures (r := [48, 49, 50, 51, 52, 53]) [47] [0, 116, 117] (S' := [(0, .string a0), (116, .bool true), (117, .string a0)]) (by kernel_rfl) ?_
                          obtain ⟨y73, hc72, h1⟩ := bindS h1
                          try dsimp only at h1
                          refine OpsT.cons (Does.call (d := some 118) (n := 13) (vs := [.string a0]) (by kernel_rfl) en13 (c13 w0 w _ _ hI hT a0 _ hc72) ?_)
                          rintro e w ⟨rfl, hI⟩
                          refine ⟨_, rfl, ?_⟩
                          refine OpsT.pures (r := []) [49, 50, 51, 52, 53] [4] (S' := [(4, .bool (decide (y73 ≤ (a0.size : Int))))]) (by kernel_rfl) ?_
                          refine OpsT.done ?_
                          have e := someS h1
                          subst e
                          exact Qn.thenJ fun a ha => ⟨decide (y73 ≤ (a0.size : Int)), rfl, ha.keep [4] (by kernel_rfl), hI⟩
                        · rw [if_neg hb71] at h1
                          have hb71 : (((a0.size : Int) == 0) == (y70 == 0)) = false := by simpa using hb71
                          refine OpsT.keep [0, 116] (S' := [(0, .string a0), (116, .bool false)]) (by simp only [hb71]; kernel_rfl) ?_
                          refine OpsT.pures (r := []) [47, 48, 49, 50, 51, 52, 53] [4] (S' := [(4, .bool false)]) (by kernel_rfl) ?_
                          refine OpsT.done ?_
                          have e := someS h1
                          subst e
                          exact Qn.thenJ fun a ha => ⟨false, rfl, ha.keep [4] (by kernel_rfl), hI⟩
                      · rw [if_neg hb68] at h1
                        have hb68 : (!y17) = false := by simpa using hb68
                        refine OpsT.keep [0, 1, 7, 89, 96] (S' := [(0, .string a0), (1, .string a1), (7, .int .i64 (wi64 (y11 + y13))), (89, .bool true), (96, .bool false)]) (by simp only [hb68]; kernel_rfl) ?_
                        refine OpsT.pures (r := [31, 32, 33, 34, 35, 36, 37, 38, 39, 40, 41, 42, 43, 44, 45, 46, 47, 48, 49, 50, 51, 52, 53]) [27, 28, 29, 30] [0, 1, 89, 100] (S' := [(0, .string a0), (1, .string a1), (89, .bool true), (100, .bool (decide ((wi64 (y11 + y13)) > 24)))]) (by kernel_rfl) ?_
                        by_cases hb74 : (decide ((wi64 (y11 + y13)) > 24)) = true
                        · rw [if_pos hb74] at h1
                          refine OpsT.keep [0, 1, 89, 100] (S' := [(0, .string a0), (1, .string a1), (89, .bool true), (100, .bool true)]) (by simp only [hb74]; kernel_rfl) ?_
                          refine OpsT.pures (r := [42, 43, 44, 45, 46, 47, 48, 49, 50, 51, 52, 53]) [31, 32, 33, 34, 35, 36, 37, 38, 39, 40, 41] [0, 107, 110, 111] (S' := [(0, .string a0), (107, .bool true), (110, .bool ((a0.size : Int) == 0)), (111, .string a0)]) (by kernel_rfl) ?_
                          obtain ⟨y76, hc75, h1⟩ := bindS h1
                          try dsimp only at h1
                          refine OpsT.cons (Does.call (d := some 112) (n := 13) (vs := [.string a0]) (by kernel_rfl) en13 (c13 w0 w _ _ hI hT a0 _ hc75) ?_)
                          rintro e w ⟨rfl, hI⟩
                          refine ⟨_, rfl, ?_⟩
                          refine OpsT.pures (r := [47, 48, 49, 50, 51, 52, 53]) [43, 44, 45, 46] [0, 116] (S' := [(0, .string a0), (116, .bool (((a0.size : Int) == 0) == (y76 == 0)))]) (by kernel_rfl) ?_
                          by_cases hb77 : (((a0.size : Int) == 0) == (y76 == 0)) = true
                          · rw [if_pos hb77] at h1
                            refine OpsT.keep [0, 116] (S' := [(0, .string a0), (116, .bool true)]) (by simp only [hb77]; kernel_rfl) ?_
                            refine OpsT.pures (r := [48, 49, 50, 51, 52, 53]) [47] [0, 116, 117] (S' := [(0, .string a0), (116, .bool true), (117, .string a0)]) (by kernel_rfl) ?_
                            obtain ⟨y79, hc78, h1⟩ := bindS h1
                            try dsimp only at h1
                            refine OpsT.cons (Does.call (d := some 118) (n := 13) (vs := [.string a0]) (by kernel_rfl) en13 (c13 w0 w _ _ hI hT a0 _ hc78) ?_)
                            rintro e w ⟨rfl, hI⟩
                            refine ⟨_, rfl, ?_⟩
                            refine OpsT.pures (r := []) [49, 50, 51, 52, 53] [4] (S' := [(4, .bool (decide (y79 ≤ (a0.size : Int))))]) (by kernel_rfl) ?_
                            refine OpsT.done ?_
                            have e := someS h1
                            subst e
                            exact Qn.thenJ fun a ha => ⟨decide (y79 ≤ (a0.size : Int)), rfl, ha.keep [4] (by kernel_rfl), hI⟩
                          · rw [if_neg hb77] at h1
                            have hb77 : (((a0.size : Int) == 0) == (y76 == 0)) = false := by simpa using hb77
                            refine OpsT.keep [0, 116] (S' := [(0, .string a0), (116, .bool false)]) (by simp only [hb77]; kernel_rfl) ?_
                            refine OpsT.pures (r := []) [47, 48, 49, 50, 51, 52, 53] [4] (S' := [(4, .bool false)]) (by kernel_rfl) ?_
                            refine OpsT.done ?_
                            have e := someS h1
                            subst e
                            exact Qn.thenJ fun a ha => ⟨false, rfl, ha.keep [4] (by kernel_rfl), hI⟩
                        · rw [if_neg hb74] at h1
                          have hb74 : (decide ((wi64 (y11 + y13)) > 24)) = false := by simpa using hb74
                          refine OpsT.keep [0, 1, 89, 100] (S' := [(0, .string a0), (1, .string a1), (89, .bool true), (100, .bool false)]) (by simp only [hb74]; kernel_rfl) ?_
                          refine OpsT.pures (r := [33, 34, 35, 36, 37, 38, 39, 40, 41, 42, 43, 44, 45, 46, 47, 48, 49, 50, 51, 52, 53]) [31, 32] [0, 89, 100, 101, 102] (S' := [(0, .string a0), (89, .bool true), (100, .bool false), (101, .string a0), (102, .string a1)]) (by kernel_rfl) ?_
                          obtain ⟨hg80, h1⟩ := guardS h1
                          refine OpsT.cons (Does.yi (Yl.cat (d := 103) (T := 9) (x := a0) (y := a1) (by kernel_rfl) hg80) hI ?_)
                          obtain ⟨y82, hc81, h1⟩ := bindS h1
                          try dsimp only at h1
                          refine OpsT.cons (Does.call (d := some 104) (n := 14) (vs := [.string (a0 ++ a1)]) (by kernel_rfl) en14 (c14 w0 w _ _ hI hT (a0 ++ a1) _ hc81) ?_)
                          rintro e w ⟨rfl, hI⟩
                          refine ⟨_, rfl, ?_⟩
                          refine OpsT.pures (r := [38, 39, 40, 41, 42, 43, 44, 45, 46, 47, 48, 49, 50, 51, 52, 53]) [35, 36, 37] [0, 107] (S' := [(0, .string a0), (107, .bool y82)]) (by kernel_rfl) ?_
                          by_cases hb83 : y82 = true
                          · rw [if_pos hb83] at h1
                            refine OpsT.keep [0, 107] (S' := [(0, .string a0), (107, .bool true)]) (by simp only [hb83]; kernel_rfl) ?_
                            refine OpsT.pures (r := [42, 43, 44, 45, 46, 47, 48, 49, 50, 51, 52, 53]) [38, 39, 40, 41] [0, 107, 110, 111] (S' := [(0, .string a0), (107, .bool true), (110, .bool ((a0.size : Int) == 0)), (111, .string a0)]) (by kernel_rfl) ?_
                            obtain ⟨y85, hc84, h1⟩ := bindS h1
                            try dsimp only at h1
                            refine OpsT.cons (Does.call (d := some 112) (n := 13) (vs := [.string a0]) (by kernel_rfl) en13 (c13 w0 w _ _ hI hT a0 _ hc84) ?_)
                            rintro e w ⟨rfl, hI⟩
                            refine ⟨_, rfl, ?_⟩
                            refine OpsT.pures (r := [47, 48, 49, 50, 51, 52, 53]) [43, 44, 45, 46] [0, 116] (S' := [(0, .string a0), (116, .bool (((a0.size : Int) == 0) == (y85 == 0)))]) (by kernel_rfl) ?_
                            by_cases hb86 : (((a0.size : Int) == 0) == (y85 == 0)) = true
                            · rw [if_pos hb86] at h1
                              refine OpsT.keep [0, 116] (S' := [(0, .string a0), (116, .bool true)]) (by simp only [hb86]; kernel_rfl) ?_
                              refine OpsT.pures (r := [48, 49, 50, 51, 52, 53]) [47] [0, 116, 117] (S' := [(0, .string a0), (116, .bool true), (117, .string a0)]) (by kernel_rfl) ?_
                              obtain ⟨y88, hc87, h1⟩ := bindS h1
                              try dsimp only at h1
                              refine OpsT.cons (Does.call (d := some 118) (n := 13) (vs := [.string a0]) (by kernel_rfl) en13 (c13 w0 w _ _ hI hT a0 _ hc87) ?_)
                              rintro e w ⟨rfl, hI⟩
                              refine ⟨_, rfl, ?_⟩
                              refine OpsT.pures (r := []) [49, 50, 51, 52, 53] [4] (S' := [(4, .bool (decide (y88 ≤ (a0.size : Int))))]) (by kernel_rfl) ?_
                              refine OpsT.done ?_
                              have e := someS h1
                              subst e
                              exact Qn.thenJ fun a ha => ⟨decide (y88 ≤ (a0.size : Int)), rfl, ha.keep [4] (by kernel_rfl), hI⟩
                            · rw [if_neg hb86] at h1
                              have hb86 : (((a0.size : Int) == 0) == (y85 == 0)) = false := by simpa using hb86
                              refine OpsT.keep [0, 116] (S' := [(0, .string a0), (116, .bool false)]) (by simp only [hb86]; kernel_rfl) ?_
                              refine OpsT.pures (r := []) [47, 48, 49, 50, 51, 52, 53] [4] (S' := [(4, .bool false)]) (by kernel_rfl) ?_
                              refine OpsT.done ?_
                              have e := someS h1
                              subst e
                              exact Qn.thenJ fun a ha => ⟨false, rfl, ha.keep [4] (by kernel_rfl), hI⟩
                          · rw [if_neg hb83] at h1
                            have hb83 : y82 = false := by simpa using hb83
                            refine OpsT.keep [0, 107] (S' := [(0, .string a0), (107, .bool false)]) (by simp only [hb83]; kernel_rfl) ?_
                            refine OpsT.pures (r := []) [38, 39, 40, 41, 42, 43, 44, 45, 46, 47, 48, 49, 50, 51, 52, 53] [4] (S' := [(4, .bool false)]) (by kernel_rfl) ?_
                            refine OpsT.done ?_
                            have e := someS h1
                            subst e
                            exact Qn.thenJ fun a ha => ⟨false, rfl, ha.keep [4] (by kernel_rfl), hI⟩
                  · rw [if_neg hb61] at h1
                    have hb61 : (!y17) = false := by simpa using hb61
                    refine OpsT.keep [0, 1, 6, 7, 8, 9, 76, 83] (S' := [(0, .string a0), (1, .string a1), (6, .int .i64 y9), (7, .int .i64 (wi64 (y11 + y13))), (8, .bool y15), (9, .bool y17), (76, .bool true), (83, .bool false)]) (by simp only [hb61]; kernel_rfl) ?_
                    refine OpsT.pures (r := [20, 21, 22, 23, 24, 25, 26, 27, 28, 29, 30, 31, 32, 33, 34, 35, 36, 37, 38, 39, 40, 41, 42, 43, 44, 45, 46, 47, 48, 49, 50, 51, 52, 53]) [14, 15, 16, 17, 18, 19] [0, 1, 7, 8, 9, 89] (S' := [(0, .string a0), (1, .string a1), (7, .int .i64 (wi64 (y11 + y13))), (8, .bool y15), (9, .bool y17), (89, .bool (y9 == (wi64 (y11 + y13))))]) (by kernel_rfl) ?_
                    by_cases hb89 : (y9 == (wi64 (y11 + y13))) = true
                    · rw [if_pos hb89] at h1
                      refine OpsT.keep [0, 1, 7, 8, 9, 89] (S' := [(0, .string a0), (1, .string a1), (7, .int .i64 (wi64 (y11 + y13))), (8, .bool y15), (9, .bool y17), (89, .bool true)]) (by simp only [hb89]; kernel_rfl) ?_
                      refine OpsT.pures (r := [23, 24, 25, 26, 27, 28, 29, 30, 31, 32, 33, 34, 35, 36, 37, 38, 39, 40, 41, 42, 43, 44, 45, 46, 47, 48, 49, 50, 51, 52, 53]) [20, 21, 22] [0, 1, 7, 9, 89, 92] (S' := [(0, .string a0), (1, .string a1), (7, .int .i64 (wi64 (y11 + y13))), (9, .bool y17), (89, .bool true), (92, .bool (!y15))]) (by kernel_rfl) ?_
                      by_cases hb90 : (!y15) = true
                      · rw [if_pos hb90] at h1
                        refine OpsT.keep [0, 1, 7, 9, 89, 92] (S' := [(0, .string a0), (1, .string a1), (7, .int .i64 (wi64 (y11 + y13))), (9, .bool y17), (89, .bool true), (92, .bool true)]) (by simp only [hb90]; kernel_rfl) ?_
                        refine OpsT.pures (r := [42, 43, 44, 45, 46, 47, 48, 49, 50, 51, 52, 53]) [23, 24, 25, 26, 27, 28, 29, 30, 31, 32, 33, 34, 35, 36, 37, 38, 39, 40, 41] [0, 107, 110, 111] (S' := [(0, .string a0), (107, .bool true), (110, .bool ((a0.size : Int) == 0)), (111, .string a0)]) (by kernel_rfl) ?_
                        obtain ⟨y92, hc91, h1⟩ := bindS h1
                        try dsimp only at h1
                        refine OpsT.cons (Does.call (d := some 112) (n := 13) (vs := [.string a0]) (by kernel_rfl) en13 (c13 w0 w _ _ hI hT a0 _ hc91) ?_)
                        rintro e w ⟨rfl, hI⟩
                        refine ⟨_, rfl, ?_⟩
                        refine OpsT.pures (r := [47, 48, 49, 50, 51, 52, 53]) [43, 44, 45, 46] [0, 116] (S' := [(0, .string a0), (116, .bool (((a0.size : Int) == 0) == (y92 == 0)))]) (by kernel_rfl) ?_
                        by_cases hb93 : (((a0.size : Int) == 0) == (y92 == 0)) = true
                        · rw [if_pos hb93] at h1
                          refine OpsT.keep [0, 116] (S' := [(0, .string a0), (116, .bool true)]) (by simp only [hb93]; kernel_rfl) ?_
                          refine OpsT.pures (r := [48, 49, 50, 51, 52, 53]) [47] [0, 116, 117] (S' := [(0, .string a0), (116, .bool true), (117, .string a0)]) (by kernel_rfl) ?_
                          obtain ⟨y95, hc94, h1⟩ := bindS h1
                          try dsimp only at h1
                          refine OpsT.cons (Does.call (d := some 118) (n := 13) (vs := [.string a0]) (by kernel_rfl) en13 (c13 w0 w _ _ hI hT a0 _ hc94) ?_)
                          rintro e w ⟨rfl, hI⟩
                          refine ⟨_, rfl, ?_⟩
                          refine OpsT.pures (r := []) [49, 50, 51, 52, 53] [4] (S' := [(4, .bool (decide (y95 ≤ (a0.size : Int))))]) (by kernel_rfl) ?_
                          refine OpsT.done ?_
                          have e := someS h1
                          subst e
                          exact Qn.thenJ fun a ha => ⟨decide (y95 ≤ (a0.size : Int)), rfl, ha.keep [4] (by kernel_rfl), hI⟩
                        · rw [if_neg hb93] at h1
                          have hb93 : (((a0.size : Int) == 0) == (y92 == 0)) = false := by simpa using hb93
                          refine OpsT.keep [0, 116] (S' := [(0, .string a0), (116, .bool false)]) (by simp only [hb93]; kernel_rfl) ?_
                          refine OpsT.pures (r := []) [47, 48, 49, 50, 51, 52, 53] [4] (S' := [(4, .bool false)]) (by kernel_rfl) ?_
                          refine OpsT.done ?_
                          have e := someS h1
                          subst e
                          exact Qn.thenJ fun a ha => ⟨false, rfl, ha.keep [4] (by kernel_rfl), hI⟩
                      · rw [if_neg hb90] at h1
                        have hb90 : (!y15) = false := by simpa using hb90
                        refine OpsT.keep [0, 1, 7, 9, 89, 92] (S' := [(0, .string a0), (1, .string a1), (7, .int .i64 (wi64 (y11 + y13))), (9, .bool y17), (89, .bool true), (92, .bool false)]) (by simp only [hb90]; kernel_rfl) ?_
                        refine OpsT.pures (r := [27, 28, 29, 30, 31, 32, 33, 34, 35, 36, 37, 38, 39, 40, 41, 42, 43, 44, 45, 46, 47, 48, 49, 50, 51, 52, 53]) [23, 24, 25, 26] [0, 1, 7, 89, 96] (S' := [(0, .string a0), (1, .string a1), (7, .int .i64 (wi64 (y11 + y13))), (89, .bool true), (96, .bool (!y17))]) (by kernel_rfl) ?_
                        by_cases hb96 : (!y17) = true
                        · rw [if_pos hb96] at h1
                          refine OpsT.keep [0, 1, 7, 89, 96] (S' := [(0, .string a0), (1, .string a1), (7, .int .i64 (wi64 (y11 + y13))), (89, .bool true), (96, .bool true)]) (by simp only [hb96]; kernel_rfl) ?_
                          refine OpsT.pures (r := [42, 43, 44, 45, 46, 47, 48, 49, 50, 51, 52, 53]) [27, 28, 29, 30, 31, 32, 33, 34, 35, 36, 37, 38, 39, 40, 41] [0, 107, 110, 111] (S' := [(0, .string a0), (107, .bool true), (110, .bool ((a0.size : Int) == 0)), (111, .string a0)]) (by kernel_rfl) ?_
                          obtain ⟨y98, hc97, h1⟩ := bindS h1
                          try dsimp only at h1
                          refine OpsT.cons (Does.call (d := some 112) (n := 13) (vs := [.string a0]) (by kernel_rfl) en13 (c13 w0 w _ _ hI hT a0 _ hc97) ?_)
                          rintro e w ⟨rfl, hI⟩
                          refine ⟨_, rfl, ?_⟩
                          refine OpsT.pures (r := [47, 48, 49, 50, 51, 52, 53]) [43, 44, 45, 46] [0, 116] (S' := [(0, .string a0), (116, .bool (((a0.size : Int) == 0) == (y98 == 0)))]) (by kernel_rfl) ?_
                          by_cases hb99 : (((a0.size : Int) == 0) == (y98 == 0)) = true
                          · rw [if_pos hb99] at h1
                            refine OpsT.keep [0, 116] (S' := [(0, .string a0), (116, .bool true)]) (by simp only [hb99]; kernel_rfl) ?_
                            refine OpsT.pures (r := [48, 49, 50, 51, 52, 53]) [47] [0, 116, 117] (S' := [(0, .string a0), (116, .bool true), (117, .string a0)]) (by kernel_rfl) ?_
                            obtain ⟨y101, hc100, h1⟩ := bindS h1
                            try dsimp only at h1
                            refine OpsT.cons (Does.call (d := some 118) (n := 13) (vs := [.string a0]) (by kernel_rfl) en13 (c13 w0 w _ _ hI hT a0 _ hc100) ?_)
                            rintro e w ⟨rfl, hI⟩
                            refine ⟨_, rfl, ?_⟩
                            refine OpsT.pures (r := []) [49, 50, 51, 52, 53] [4] (S' := [(4, .bool (decide (y101 ≤ (a0.size : Int))))]) (by kernel_rfl) ?_
                            refine OpsT.done ?_
                            have e := someS h1
                            subst e
                            exact Qn.thenJ fun a ha => ⟨decide (y101 ≤ (a0.size : Int)), rfl, ha.keep [4] (by kernel_rfl), hI⟩
                          · rw [if_neg hb99] at h1
                            have hb99 : (((a0.size : Int) == 0) == (y98 == 0)) = false := by simpa using hb99
                            refine OpsT.keep [0, 116] (S' := [(0, .string a0), (116, .bool false)]) (by simp only [hb99]; kernel_rfl) ?_
                            refine OpsT.pures (r := []) [47, 48, 49, 50, 51, 52, 53] [4] (S' := [(4, .bool false)]) (by kernel_rfl) ?_
                            refine OpsT.done ?_
                            have e := someS h1
                            subst e
                            exact Qn.thenJ fun a ha => ⟨false, rfl, ha.keep [4] (by kernel_rfl), hI⟩
                        · rw [if_neg hb96] at h1
                          have hb96 : (!y17) = false := by simpa using hb96
                          refine OpsT.keep [0, 1, 7, 89, 96] (S' := [(0, .string a0), (1, .string a1), (7, .int .i64 (wi64 (y11 + y13))), (89, .bool true), (96, .bool false)]) (by simp only [hb96]; kernel_rfl) ?_
                          refine OpsT.pures (r := [31, 32, 33, 34, 35, 36, 37, 38, 39, 40, 41, 42, 43, 44, 45, 46, 47, 48, 49, 50, 51, 52, 53]) [27, 28, 29, 30] [0, 1, 89, 100] (S' := [(0, .string a0), (1, .string a1), (89, .bool true), (100, .bool (decide ((wi64 (y11 + y13)) > 24)))]) (by kernel_rfl) ?_
                          by_cases hb102 : (decide ((wi64 (y11 + y13)) > 24)) = true
                          · rw [if_pos hb102] at h1
                            refine OpsT.keep [0, 1, 89, 100] (S' := [(0, .string a0), (1, .string a1), (89, .bool true), (100, .bool true)]) (by simp only [hb102]; kernel_rfl) ?_
                            refine OpsT.pures (r := [42, 43, 44, 45, 46, 47, 48, 49, 50, 51, 52, 53]) [31, 32, 33, 34, 35, 36, 37, 38, 39, 40, 41] [0, 107, 110, 111] (S' := [(0, .string a0), (107, .bool true), (110, .bool ((a0.size : Int) == 0)), (111, .string a0)]) (by kernel_rfl) ?_
                            obtain ⟨y104, hc103, h1⟩ := bindS h1
                            try dsimp only at h1
                            refine OpsT.cons (Does.call (d := some 112) (n := 13) (vs := [.string a0]) (by kernel_rfl) en13 (c13 w0 w _ _ hI hT a0 _ hc103) ?_)
                            rintro e w ⟨rfl, hI⟩
                            refine ⟨_, rfl, ?_⟩
                            refine OpsT.pures (r := [47, 48, 49, 50, 51, 52, 53]) [43, 44, 45, 46] [0, 116] (S' := [(0, .string a0), (116, .bool (((a0.size : Int) == 0) == (y104 == 0)))]) (by kernel_rfl) ?_
                            by_cases hb105 : (((a0.size : Int) == 0) == (y104 == 0)) = true
                            · rw [if_pos hb105] at h1
                              refine OpsT.keep [0, 116] (S' := [(0, .string a0), (116, .bool true)]) (by simp only [hb105]; kernel_rfl) ?_
                              refine OpsT.pures (r := [48, 49, 50, 51, 52, 53]) [47] [0, 116, 117] (S' := [(0, .string a0), (116, .bool true), (117, .string a0)]) (by kernel_rfl) ?_
                              obtain ⟨y107, hc106, h1⟩ := bindS h1
                              try dsimp only at h1
                              refine OpsT.cons (Does.call (d := some 118) (n := 13) (vs := [.string a0]) (by kernel_rfl) en13 (c13 w0 w _ _ hI hT a0 _ hc106) ?_)
                              rintro e w ⟨rfl, hI⟩
                              refine ⟨_, rfl, ?_⟩
                              refine OpsT.pures (r := []) [49, 50, 51, 52, 53] [4] (S' := [(4, .bool (decide (y107 ≤ (a0.size : Int))))]) (by kernel_rfl) ?_
                              refine OpsT.done ?_
                              have e := someS h1
                              subst e
                              exact Qn.thenJ fun a ha => ⟨decide (y107 ≤ (a0.size : Int)), rfl, ha.keep [4] (by kernel_rfl), hI⟩
                            · rw [if_neg hb105] at h1
                              have hb105 : (((a0.size : Int) == 0) == (y104 == 0)) = false := by simpa using hb105
                              refine OpsT.keep [0, 116] (S' := [(0, .string a0), (116, .bool false)]) (by simp only [hb105]; kernel_rfl) ?_
                              refine OpsT.pures (r := []) [47, 48, 49, 50, 51, 52, 53] [4] (S' := [(4, .bool false)]) (by kernel_rfl) ?_
                              refine OpsT.done ?_
                              have e := someS h1
                              subst e
                              exact Qn.thenJ fun a ha => ⟨false, rfl, ha.keep [4] (by kernel_rfl), hI⟩
                          · rw [if_neg hb102] at h1
                            have hb102 : (decide ((wi64 (y11 + y13)) > 24)) = false := by simpa using hb102
                            refine OpsT.keep [0, 1, 89, 100] (S' := [(0, .string a0), (1, .string a1), (89, .bool true), (100, .bool false)]) (by simp only [hb102]; kernel_rfl) ?_
                            refine OpsT.pures (r := [33, 34, 35, 36, 37, 38, 39, 40, 41, 42, 43, 44, 45, 46, 47, 48, 49, 50, 51, 52, 53]) [31, 32] [0, 89, 100, 101, 102] (S' := [(0, .string a0), (89, .bool true), (100, .bool false), (101, .string a0), (102, .string a1)]) (by kernel_rfl) ?_
                            obtain ⟨hg108, h1⟩ := guardS h1
                            refine OpsT.cons (Does.yi (Yl.cat (d := 103) (T := 9) (x := a0) (y := a1) (by kernel_rfl) hg108) hI ?_)
                            obtain ⟨y110, hc109, h1⟩ := bindS h1
                            try dsimp only at h1
                            refine OpsT.cons (Does.call (d := some 104) (n := 14) (vs := [.string (a0 ++ a1)]) (by kernel_rfl) en14 (c14 w0 w _ _ hI hT (a0 ++ a1) _ hc109) ?_)
                            rintro e w ⟨rfl, hI⟩
                            refine ⟨_, rfl, ?_⟩
                            refine OpsT.pures (r := [38, 39, 40, 41, 42, 43, 44, 45, 46, 47, 48, 49, 50, 51, 52, 53]) [35, 36, 37] [0, 107] (S' := [(0, .string a0), (107, .bool y110)]) (by kernel_rfl) ?_
                            by_cases hb111 : y110 = true
                            · rw [if_pos hb111] at h1
                              refine OpsT.keep [0, 107] (S' := [(0, .string a0), (107, .bool true)]) (by simp only [hb111]; kernel_rfl) ?_
                              refine OpsT.pures (r := [42, 43, 44, 45, 46, 47, 48, 49, 50, 51, 52, 53]) [38, 39, 40, 41] [0, 107, 110, 111] (S' := [(0, .string a0), (107, .bool true), (110, .bool ((a0.size : Int) == 0)), (111, .string a0)]) (by kernel_rfl) ?_
                              obtain ⟨y113, hc112, h1⟩ := bindS h1
                              try dsimp only at h1
                              refine OpsT.cons (Does.call (d := some 112) (n := 13) (vs := [.string a0]) (by kernel_rfl) en13 (c13 w0 w _ _ hI hT a0 _ hc112) ?_)
                              rintro e w ⟨rfl, hI⟩
                              refine ⟨_, rfl, ?_⟩
                              refine OpsT.pures (r := [47, 48, 49, 50, 51, 52, 53]) [43, 44, 45, 46] [0, 116] (S' := [(0, .string a0), (116, .bool (((a0.size : Int) == 0) == (y113 == 0)))]) (by kernel_rfl) ?_
                              by_cases hb114 : (((a0.size : Int) == 0) == (y113 == 0)) = true
                              · rw [if_pos hb114] at h1
                                refine OpsT.keep [0, 116] (S' := [(0, .string a0), (116, .bool true)]) (by simp only [hb114]; kernel_rfl) ?_
                                refine OpsT.pures (r := [48, 49, 50, 51, 52, 53]) [47] [0, 116, 117] (S' := [(0, .string a0), (116, .bool true), (117, .string a0)]) (by kernel_rfl) ?_
                                obtain ⟨y116, hc115, h1⟩ := bindS h1
                                try dsimp only at h1
                                refine OpsT.cons (Does.call (d := some 118) (n := 13) (vs := [.string a0]) (by kernel_rfl) en13 (c13 w0 w _ _ hI hT a0 _ hc115) ?_)
                                rintro e w ⟨rfl, hI⟩
                                refine ⟨_, rfl, ?_⟩
                                refine OpsT.pures (r := []) [49, 50, 51, 52, 53] [4] (S' := [(4, .bool (decide (y116 ≤ (a0.size : Int))))]) (by kernel_rfl) ?_
                                refine OpsT.done ?_
                                have e := someS h1
                                subst e
                                exact Qn.thenJ fun a ha => ⟨decide (y116 ≤ (a0.size : Int)), rfl, ha.keep [4] (by kernel_rfl), hI⟩
                              · rw [if_neg hb114] at h1
                                have hb114 : (((a0.size : Int) == 0) == (y113 == 0)) = false := by simpa using hb114
                                refine OpsT.keep [0, 116] (S' := [(0, .string a0), (116, .bool false)]) (by simp only [hb114]; kernel_rfl) ?_
                                refine OpsT.pures (r := []) [47, 48, 49, 50, 51, 52, 53] [4] (S' := [(4, .bool false)]) (by kernel_rfl) ?_
                                refine OpsT.done ?_
                                have e := someS h1
                                subst e
                                exact Qn.thenJ fun a ha => ⟨false, rfl, ha.keep [4] (by kernel_rfl), hI⟩
                            · rw [if_neg hb111] at h1
                              have hb111 : y110 = false := by simpa using hb111
                              refine OpsT.keep [0, 107] (S' := [(0, .string a0), (107, .bool false)]) (by simp only [hb111]; kernel_rfl) ?_
                              refine OpsT.pures (r := []) [38, 39, 40, 41, 42, 43, 44, 45, 46, 47, 48, 49, 50, 51, 52, 53] [4] (S' := [(4, .bool false)]) (by kernel_rfl) ?_
                              refine OpsT.done ?_
                              have e := someS h1
                              subst e
                              exact Qn.thenJ fun a ha => ⟨false, rfl, ha.keep [4] (by kernel_rfl), hI⟩
                    · rw [if_neg hb89] at h1
                      have hb89 : (y9 == (wi64 (y11 + y13))) = false := by simpa using hb89
                      refine OpsT.keep [0, 1, 7, 8, 9, 89] (S' := [(0, .string a0), (1, .string a1), (7, .int .i64 (wi64 (y11 + y13))), (8, .bool y15), (9, .bool y17), (89, .bool false)]) (by simp only [hb89]; kernel_rfl) ?_
                      refine OpsT.pures (r := []) [20, 21, 22, 23, 24, 25, 26, 27, 28, 29, 30, 31, 32, 33, 34, 35, 36, 37, 38, 39, 40, 41, 42, 43, 44, 45, 46, 47, 48, 49, 50, 51, 52, 53] [4] (S' := [(4, .bool false)]) (by kernel_rfl) ?_
                      refine OpsT.done ?_
                      have e := someS h1
                      subst e
                      exact Qn.thenJ fun a ha => ⟨false, rfl, ha.keep [4] (by kernel_rfl), hI⟩
              · rw [if_neg hb32] at h1
                have hb32 : (decide (y9 ≤ (wi64 (y11 + y13)))) = false := by simpa using hb32
                refine OpsT.keep [0, 1, 6, 7, 8, 9, 76] (S' := [(0, .string a0), (1, .string a1), (6, .int .i64 y9), (7, .int .i64 (wi64 (y11 + y13))), (8, .bool y15), (9, .bool y17), (76, .bool false)]) (by simp only [hb32]; kernel_rfl) ?_
                refine OpsT.pures (r := []) [7, 8, 9, 10, 11, 12, 13, 14, 15, 16, 17, 18, 19, 20, 21, 22, 23, 24, 25, 26, 27, 28, 29, 30, 31, 32, 33, 34, 35, 36, 37, 38, 39, 40, 41, 42, 43, 44, 45, 46, 47, 48, 49, 50, 51, 52, 53] [4] (S' := [(4, .bool false)]) (by kernel_rfl) ?_
                refine OpsT.done ?_
                have e := someS h1
                subst e
                exact Qn.thenJ fun a ha => ⟨false, rfl, ha.keep [4] (by kernel_rfl), hI⟩
            · rw [if_neg hb31] at h1
              have hb31 : y2 = false := by simpa using hb31
              refine OpsT.keep [0, 1, 6, 7, 8, 9, 71] (S' := [(0, .string a0), (1, .string a1), (6, .int .i64 y9), (7, .int .i64 (wi64 (y11 + y13))), (8, .bool y15), (9, .bool y17), (71, .bool false)]) (by simp only [hb31]; kernel_rfl) ?_
              refine OpsT.pures (r := []) [2, 3, 4, 5, 6, 7, 8, 9, 10, 11, 12, 13, 14, 15, 16, 17, 18, 19, 20, 21, 22, 23, 24, 25, 26, 27, 28, 29, 30, 31, 32, 33, 34, 35, 36, 37, 38, 39, 40, 41, 42, 43, 44, 45, 46, 47, 48, 49, 50, 51, 52, 53] [4] (S' := [(4, .bool false)]) (by kernel_rfl) ?_
              refine OpsT.done ?_
              have e := someS h1
              subst e
              exact Qn.thenJ fun a ha => ⟨false, rfl, ha.keep [4] (by kernel_rfl), hI⟩
          ·
            rintro a w ⟨x30, rfl, ha, hI⟩
            try dsimp only at h0
            refine CodT.of ?_ ha
            refine CodT.ret ?_
            have e := someS h0
            subst e
            refine Qn.keep [4] (S' := [(4, .bool x30)]) (by kernel_rfl) ?_
            exact post_ret (v := .bool x30) (fun a ha => RunRes.run (vs := [.bool x30]) (.tmp (t := 4) (by kernel_rfl) .nil) ha (by kernel_rfl)) ⟨rfl, hI⟩
end Go.Cen
