/- The walk of the law NameJoins, printed by a program of ours. -/
import Derived.Test.YthdoklobbcedcabDoorWx1
set_option linter.unusedVariables false
set_option linter.unusedSimpArgs false
namespace Go.Cen
set_option maxRecDepth 100000 in
set_option maxHeartbeats 4000000 in
/-- cenotaph/cenotaphlaw03.NameJoins -/
theorem c6 (w0 w : World) (Z : Hp) (A : HP) (hI : Inv w0 Z w A) (hT : Tabs Z) (a0 : ByteArray) (a1 : ByteArray) (r : Bool) (h0 : law03_NameJoins a0 a1 = some r) :
    Calls prog 6 #[.string a0, .string a1] w (fun e w' => e = .returned (.bool r) ∧ Inv w0 Z w' A) := by
  have e4 := calls_intro (R := (fun e w' => e = .returned (.bool r) ∧ Inv w0 Z w' A)) (w := w) (args := [.string a0, .string a1]) (fn := Go.Proofs.Tryd.f6) 60 Go.Proofs.Tryd.func6 (by rfl) Go.Proofs.Tryd.ntmps6 (by kernel_rfl)
  refine e4 ?_
  clear e4
  unfold law03_NameJoins at h0
  refine CodT.seq ?_
  refine CodT.regionL [0] (by kernel_rfl) ?_
  refine OpsT.pures (r := []) [0] [0, 1] (S' := [(0, .string a0), (1, .string a1)]) (by kernel_rfl) ?_
  refine OpsT.done ?_
  refine Qn.then ?_
  refine CodT.seq ?_
  refine CodT.regionL [0, 1] (by kernel_rfl) ?_
  obtain ⟨y2, hc1, h0⟩ := bindS h0
  try dsimp only at h0
  refine OpsT.cons (Does.call (d := some 8) (n := 8) (vs := []) (by kernel_rfl) en8 (c8 w0 w _ _ hI hT _ hc1) ?_)
  rintro e w ⟨rfl, hI⟩
  refine ⟨_, rfl, ?_⟩
  refine OpsT.pures (r := []) [1] [0, 1, 5] (S' := [(0, .string a0), (1, .string a1), (5, .bool y2)]) (by kernel_rfl) ?_
  refine OpsT.done ?_
  refine Qn.then ?_
  refine CodT.seq ?_
  refine CodT.seq ?_
  refine CodT.regionL [0, 1] (by kernel_rfl) ?_
  refine OpsT.pures (r := []) [0, 1] [0, 1, 5, 10] (S' := [(0, .string a0), (1, .string a1), (5, .bool y2), (10, .bool (!y2))]) (by kernel_rfl) ?_
  refine OpsT.done ?_
  refine Qn.then ?_
  by_cases hb3 : (!y2) = true
  · rw [if_pos hb3] at h0
    refine CodT.yes' (b := !y2) (by kernel_rfl) hb3 ?_
    refine CodT.seq ?_
    refine CodT.regionL [0] (by kernel_rfl) ?_
    refine OpsT.pures (r := []) [0] [4] (S' := [(4, .bool false)]) (by kernel_rfl) ?_
    refine OpsT.done ?_
    refine Qn.then ?_
    refine CodT.ret ?_
    refine Qn.ret_then ?_
    have e := someS h0
    subst e
    refine Qn.keep [4] (S' := [(4, .bool false)]) (by kernel_rfl) ?_
    exact post_ret (v := .bool false) (fun a ha => RunRes.run (vs := [.bool false]) (.tmp (t := 4) (by kernel_rfl) .nil) ha (by kernel_rfl)) ⟨rfl, hI⟩
  · rw [if_neg hb3] at h0
    refine CodT.no' (b := !y2) (by kernel_rfl) (by simpa using hb3) ?_
    refine CodT.skip ?_
    refine Qn.then ?_
    refine CodT.seq ?_
    obtain ⟨r1, h1, h0⟩ := bindS h0
    refine CodT.meet (fun a w => ∃ (x4 : Bool), x4 = r1 ∧ Fr 60 [(0, .string a0), (1, .string a1), (5, .bool y2), (28, .bool x4)] a ∧ Inv w0 Z w A) ?_ ?_
    ·
      refine CodT.regionL [0, 1, 2, 3, 4, 5, 6, 7, 8, 9, 10, 11, 12, 13, 14, 15, 16, 17] (by kernel_rfl) ?_
      refine OpsT.pures (r := [4, 5, 6, 7, 8, 9, 10, 11, 12, 13, 14, 15, 16, 17]) [0, 1, 2, 3] [0, 1, 5, 14] (S' := [(0, .string a0), (1, .string a1), (5, .bool y2), (14, .bool (decide ((a0.size : Int) > 200)))]) (by kernel_rfl) ?_
      by_cases hb5 : (decide ((a0.size : Int) > 200)) = true
      · rw [if_pos hb5] at h1
        refine OpsT.keep [0, 1, 5, 14] (S' := [(0, .string a0), (1, .string a1), (5, .bool y2), (14, .bool true)]) (by simp only [hb5]; kernel_rfl) ?_
        refine OpsT.pures (r := []) [4, 5, 6, 7, 8, 9, 10, 11, 12, 13, 14, 15, 16, 17] [0, 1, 5, 28] (S' := [(0, .string a0), (1, .string a1), (5, .bool y2), (28, .bool true)]) (by kernel_rfl) ?_
        refine OpsT.done ?_
        have e := someS h1
        subst e
        exact Qn.thenJ fun a ha => ⟨true, rfl, ha.keep [0, 1, 5, 28] (by kernel_rfl), hI⟩
      · rw [if_neg hb5] at h1
        have hb5 : (decide ((a0.size : Int) > 200)) = false := by simpa using hb5
        refine OpsT.keep [0, 1, 5, 14] (S' := [(0, .string a0), (1, .string a1), (5, .bool y2), (14, .bool false)]) (by simp only [hb5]; kernel_rfl) ?_
        refine OpsT.pures (r := [9, 10, 11, 12, 13, 14, 15, 16, 17]) [4, 5, 6, 7, 8] [0, 1, 5, 19] (S' := [(0, .string a0), (1, .string a1), (5, .bool y2), (19, .bool (decide ((a1.size : Int) > 200)))]) (by kernel_rfl) ?_
        by_cases hb6 : (decide ((a1.size : Int) > 200)) = true
        · rw [if_pos hb6] at h1
          refine OpsT.keep [0, 1, 5, 19] (S' := [(0, .string a0), (1, .string a1), (5, .bool y2), (19, .bool true)]) (by simp only [hb6]; kernel_rfl) ?_
          refine OpsT.pures (r := []) [9, 10, 11, 12, 13, 14, 15, 16, 17] [0, 1, 5, 28] (S' := [(0, .string a0), (1, .string a1), (5, .bool y2), (28, .bool true)]) (by kernel_rfl) ?_
          refine OpsT.done ?_
          have e := someS h1
          subst e
          exact Qn.thenJ fun a ha => ⟨true, rfl, ha.keep [0, 1, 5, 28] (by kernel_rfl), hI⟩
        · rw [if_neg hb6] at h1
          have hb6 : (decide ((a1.size : Int) > 200)) = false := by simpa using hb6
          refine OpsT.keep [0, 1, 5, 19] (S' := [(0, .string a0), (1, .string a1), (5, .bool y2), (19, .bool false)]) (by simp only [hb6]; kernel_rfl) ?_
          refine OpsT.pures (r := [10, 11, 12, 13, 14, 15, 16, 17]) [9] [0, 1, 5, 19, 20] (S' := [(0, .string a0), (1, .string a1), (5, .bool y2), (19, .bool false), (20, .string a0)]) (by kernel_rfl) ?_
          obtain ⟨y8, hc7, h1⟩ := bindS h1
          try dsimp only at h1
          refine OpsT.cons (Does.call (d := some 21) (n := 14) (vs := [.string a0]) (by kernel_rfl) en14 (c14 w0 w _ _ hI hT a0 _ hc7) ?_)
          rintro e w ⟨rfl, hI⟩
          refine ⟨_, rfl, ?_⟩
          refine OpsT.pures (r := [14, 15, 16, 17]) [11, 12, 13] [0, 1, 5, 24] (S' := [(0, .string a0), (1, .string a1), (5, .bool y2), (24, .bool (!y8))]) (by kernel_rfl) ?_
          by_cases hb9 : (!y8) = true
          · rw [if_pos hb9] at h1
            refine OpsT.keep [0, 1, 5, 24] (S' := [(0, .string a0), (1, .string a1), (5, .bool y2), (24, .bool true)]) (by simp only [hb9]; kernel_rfl) ?_
            refine OpsT.pures (r := []) [14, 15, 16, 17] [0, 1, 5, 28] (S' := [(0, .string a0), (1, .string a1), (5, .bool y2), (28, .bool true)]) (by kernel_rfl) ?_
            refine OpsT.done ?_
            have e := someS h1
            subst e
            exact Qn.thenJ fun a ha => ⟨true, rfl, ha.keep [0, 1, 5, 28] (by kernel_rfl), hI⟩
          · rw [if_neg hb9] at h1
            have hb9 : (!y8) = false := by simpa using hb9
            refine OpsT.keep [0, 1, 5, 24] (S' := [(0, .string a0), (1, .string a1), (5, .bool y2), (24, .bool false)]) (by simp only [hb9]; kernel_rfl) ?_
            refine OpsT.pures (r := [15, 16, 17]) [14] [0, 1, 5, 24, 25] (S' := [(0, .string a0), (1, .string a1), (5, .bool y2), (24, .bool false), (25, .string a1)]) (by kernel_rfl) ?_
            obtain ⟨y11, hc10, h1⟩ := bindS h1
            try dsimp only at h1
            refine OpsT.cons (Does.call (d := some 26) (n := 14) (vs := [.string a1]) (by kernel_rfl) en14 (c14 w0 w _ _ hI hT a1 _ hc10) ?_)
            rintro e w ⟨rfl, hI⟩
            refine ⟨_, rfl, ?_⟩
            refine OpsT.pures (r := []) [16, 17] [0, 1, 5, 28] (S' := [(0, .string a0), (1, .string a1), (5, .bool y2), (28, .bool (!y11))]) (by kernel_rfl) ?_
            refine OpsT.done ?_
            have e := someS h1
            subst e
            exact Qn.thenJ fun a ha => ⟨!y11, rfl, ha.keep [0, 1, 5, 28] (by kernel_rfl), hI⟩
    ·
      rintro a w ⟨x4, rfl, ha, hI⟩
      try dsimp only at h0
      refine CodT.of ?_ ha
      by_cases hb12 : x4 = true
      · rw [if_pos hb12] at h0
        refine CodT.yes' (b := x4) (by kernel_rfl) hb12 ?_
        refine CodT.seq ?_
        refine CodT.regionL [0, 1] (by kernel_rfl) ?_
        refine OpsT.pures (r := []) [0, 1] [4] (S' := [(4, .bool y2)]) (by kernel_rfl) ?_
        refine OpsT.done ?_
        refine Qn.then ?_
        refine CodT.ret ?_
        refine Qn.ret_then ?_
        have e := someS h0
        subst e
        refine Qn.keep [4] (S' := [(4, .bool y2)]) (by kernel_rfl) ?_
        exact post_ret (v := .bool y2) (fun a ha => RunRes.run (vs := [.bool y2]) (.tmp (t := 4) (by kernel_rfl) .nil) ha (by kernel_rfl)) ⟨rfl, hI⟩
      · rw [if_neg hb12] at h0
        refine CodT.no' (b := x4) (by kernel_rfl) (by simpa using hb12) ?_
        refine CodT.skip ?_
        refine Qn.then ?_
        refine CodT.seq ?_
        refine CodT.regionL [0, 1, 2] (by kernel_rfl) ?_
        refine OpsT.pures (r := [1, 2]) [0] [0, 1, 5, 30] (S' := [(0, .string a0), (1, .string a1), (5, .bool y2), (30, .string a0)]) (by kernel_rfl) ?_
        obtain ⟨y14, hc13, h0⟩ := bindS h0
        try dsimp only at h0
        refine OpsT.cons (Does.call (d := some 31) (n := 9) (vs := [.string a0]) (by kernel_rfl) en9 (c9 w0 w _ _ hI hT a0 _ hc13) ?_)
        rintro e w ⟨rfl, hI⟩
        refine ⟨_, rfl, ?_⟩
        refine OpsT.pures (r := []) [2] [0, 1, 5, 6] (S' := [(0, .string a0), (1, .string a1), (5, .bool y2), (6, .string y14)]) (by kernel_rfl) ?_
        refine OpsT.done ?_
        refine Qn.then ?_
        refine CodT.seq ?_
        refine CodT.regionL [0, 1, 2] (by kernel_rfl) ?_
        refine OpsT.pures (r := [1, 2]) [0] [0, 1, 5, 6, 32] (S' := [(0, .string a0), (1, .string a1), (5, .bool y2), (6, .string y14), (32, .string a1)]) (by kernel_rfl) ?_
        obtain ⟨y16, hc15, h0⟩ := bindS h0
        try dsimp only at h0
        refine OpsT.cons (Does.call (d := some 33) (n := 9) (vs := [.string a1]) (by kernel_rfl) en9 (c9 w0 w _ _ hI hT a1 _ hc15) ?_)
        rintro e w ⟨rfl, hI⟩
        refine ⟨_, rfl, ?_⟩
        refine OpsT.pures (r := []) [2] [0, 1, 5, 6, 7] (S' := [(0, .string a0), (1, .string a1), (5, .bool y2), (6, .string y14), (7, .string y16)]) (by kernel_rfl) ?_
        refine OpsT.done ?_
        refine Qn.then ?_
        obtain ⟨r1, h1, h0⟩ := bindS h0
        refine CodT.meet (fun a w => ∃ (x17 : Bool), x17 = r1 ∧ Fr 60 [(4, .bool x17)] a ∧ Inv w0 Z w A) ?_ ?_
        ·
          refine CodT.drawI (n := 27) [] (by kernel_rfl) (by kernel_rfl) hI ?_
          intro w hI
          refine GmT.p' 0 34 (.bool y2) (by kernel_rfl) (by kernel_rfl) ?_
          refine GmT.p' 1 35 (.bool y2) (by kernel_rfl) (by kernel_rfl) ?_
          by_cases hb18 : y2 = true
          · rw [if_pos hb18] at h1
            refine GmT.keep [0, 1, 6, 7, 35] (S' := [(0, .string a0), (1, .string a1), (6, .string y14), (7, .string y16), (35, .bool true)]) (by simp only [hb18]; kernel_rfl) ?_
            refine GmT.p' 2 36 (.string y14) (by kernel_rfl) (by kernel_rfl) ?_
            refine GmT.p' 3 37 (.int .i64 (y14.size : Int)) (by kernel_rfl) (by kernel_rfl) ?_
            refine GmT.p' 4 38 (.bool (decide ((y14.size : Int) > 1))) (by kernel_rfl) (by kernel_rfl) ?_
            refine GmT.p' 5 39 (.bool (decide ((y14.size : Int) > 1))) (by kernel_rfl) (by kernel_rfl) ?_
            refine GmT.p' 6 40 (.bool (decide ((y14.size : Int) > 1))) (by kernel_rfl) (by kernel_rfl) ?_
            by_cases hb19 : (decide ((y14.size : Int) > 1)) = true
            · rw [if_pos hb19] at h1
              refine GmT.keep [0, 1, 6, 7, 40] (S' := [(0, .string a0), (1, .string a1), (6, .string y14), (7, .string y16), (40, .bool true)]) (by simp only [hb19]; kernel_rfl) ?_
              refine GmT.p' 7 41 (.string y16) (by kernel_rfl) (by kernel_rfl) ?_
              refine GmT.p' 8 42 (.int .i64 (y16.size : Int)) (by kernel_rfl) (by kernel_rfl) ?_
              refine GmT.p' 9 43 (.bool (decide ((y16.size : Int) > 1))) (by kernel_rfl) (by kernel_rfl) ?_
              refine GmT.p' 10 44 (.bool (decide ((y16.size : Int) > 1))) (by kernel_rfl) (by kernel_rfl) ?_
              refine GmT.p' 11 45 (.bool (decide ((y16.size : Int) > 1))) (by kernel_rfl) (by kernel_rfl) ?_
              by_cases hb20 : (decide ((y16.size : Int) > 1)) = true
              · rw [if_pos hb20] at h1
                refine GmT.keep [0, 1, 6, 7, 45] (S' := [(0, .string a0), (1, .string a1), (6, .string y14), (7, .string y16), (45, .bool true)]) (by simp only [hb20]; kernel_rfl) ?_
                refine GmT.p' 12 46 (.string a0) (by kernel_rfl) (by kernel_rfl) ?_
                refine GmT.p' 13 47 (.string a1) (by kernel_rfl) (by kernel_rfl) ?_
                refine GmT.p' 16 50 (.string y14) (by kernel_rfl) (by kernel_rfl) ?_
                refine GmT.p' 17 51 (.string y14) (by kernel_rfl) (by kernel_rfl) ?_
                refine GmT.p' 18 52 (.int .i64 (y14.size : Int)) (by kernel_rfl) (by kernel_rfl) ?_
                refine GmT.p' 19 53 (.int .i64 (wi64 ((y14.size : Int) - 1))) (by kernel_rfl) (by kernel_rfl) ?_
                refine GmT.p' 21 55 (.string y16) (by kernel_rfl) (by kernel_rfl) ?_
                obtain ⟨hg21, h1⟩ := guardS h1
                refine GmT.r (i := 14) 2 (by kernel_rfl) (by kernel_rfl) (Yl.cat (d := 48) (T := 9) (x := a0) (y := a1) (by kernel_rfl) hg21) hI ?_
                obtain ⟨hg22, h1⟩ := guardS h1
                refine GmT.r (i := 20) 2 (by kernel_rfl) (by kernel_rfl) (Yl.sliceStr01 (d := 54) (T := 9) (s := y14) (hi := wi64 ((y14.size : Int) - 1)) (by kernel_rfl) Go.Proofs.Tryd.underlying9 hg22) hI ?_
                obtain ⟨hg23, h1⟩ := guardS h1
                refine GmT.r (i := 22) 2 (by kernel_rfl) (by kernel_rfl) (Yl.sliceStr10 (d := 56) (T := 9) (s := y16) (lo := 1) (by kernel_rfl) Go.Proofs.Tryd.underlying9 hg23) hI ?_
                obtain ⟨hg24, h1⟩ := guardS h1
                refine GmT.r (i := 23) 2 (by kernel_rfl) (by kernel_rfl) (Yl.cat (d := 57) (T := 9) (x := sx y14 0 (wi64 ((y14.size : Int) - 1))) (y := sx y16 1 (y16.size : Int)) (by kernel_rfl) hg24) hI ?_
                obtain ⟨y26, hc25, h1⟩ := bindS h1
                try dsimp only at h1
                refine GmT.o (i := 15) (by kernel_rfl) (Does.call (d := some 49) (n := 9) (vs := [.string (a0 ++ a1)]) (by kernel_rfl) en9 (c9 w0 w _ _ hI hT (a0 ++ a1) _ hc25) ?_)
                rintro e w ⟨rfl, hI⟩
                refine ⟨_, rfl, ?_⟩
                refine ⟨fun _ _ => hI, ?_⟩
                refine GmT.p' 24 58 (.bool (seq y26 ((sx y14 0 (wi64 ((y14.size : Int) - 1))) ++ (sx y16 1 (y16.size : Int))))) (by kernel_rfl) (by kernel_rfl) ?_
                refine GmT.p' 25 59 (.bool (seq y26 ((sx y14 0 (wi64 ((y14.size : Int) - 1))) ++ (sx y16 1 (y16.size : Int))))) (by kernel_rfl) (by kernel_rfl) ?_
                refine GmT.p' 26 4 (.bool (seq y26 ((sx y14 0 (wi64 ((y14.size : Int) - 1))) ++ (sx y16 1 (y16.size : Int))))) (by kernel_rfl) (by kernel_rfl) ?_
                refine GmT.done (by kernel_rfl) ?_
                have e := someS h1
                subst e
                exact Qn.thenJ fun a ha => ⟨seq y26 ((sx y14 0 (wi64 ((y14.size : Int) - 1))) ++ (sx y16 1 (y16.size : Int))), rfl, ha.keep [4] (by kernel_rfl), hI⟩
              · rw [if_neg hb20] at h1
                have hb20 : (decide ((y16.size : Int) > 1)) = false := by simpa using hb20
                refine GmT.keep [0, 1, 6, 7, 45] (S' := [(0, .string a0), (1, .string a1), (6, .string y14), (7, .string y16), (45, .bool false)]) (by simp only [hb20]; kernel_rfl) ?_
                refine GmT.p' 12 46 (undef) (by kernel_rfl) (by kernel_rfl) ?_
                refine GmT.p' 13 47 (undef) (by kernel_rfl) (by kernel_rfl) ?_
                refine GmT.p' 14 48 (undef) (by kernel_rfl) (by kernel_rfl) ?_
                refine GmT.p' 15 49 (undef) (by kernel_rfl) (by kernel_rfl) ?_
                refine GmT.p' 16 50 (undef) (by kernel_rfl) (by kernel_rfl) ?_
                refine GmT.p' 17 51 (undef) (by kernel_rfl) (by kernel_rfl) ?_
                refine GmT.p' 18 52 (undef) (by kernel_rfl) (by kernel_rfl) ?_
                refine GmT.p' 19 53 (undef) (by kernel_rfl) (by kernel_rfl) ?_
                refine GmT.p' 20 54 (undef) (by kernel_rfl) (by kernel_rfl) ?_
                refine GmT.p' 21 55 (undef) (by kernel_rfl) (by kernel_rfl) ?_
                refine GmT.p' 22 56 (undef) (by kernel_rfl) (by kernel_rfl) ?_
                refine GmT.p' 23 57 (undef) (by kernel_rfl) (by kernel_rfl) ?_
                refine GmT.p' 24 58 (undef) (by kernel_rfl) (by kernel_rfl) ?_
                refine GmT.p' 25 59 (.bool false) (by kernel_rfl) (by kernel_rfl) ?_
                refine GmT.p' 26 4 (.bool false) (by kernel_rfl) (by kernel_rfl) ?_
                refine GmT.done (by kernel_rfl) ?_
                have e := someS h1
                subst e
                exact Qn.thenJ fun a ha => ⟨false, rfl, ha.keep [4] (by kernel_rfl), hI⟩
            · rw [if_neg hb19] at h1
              have hb19 : (decide ((y14.size : Int) > 1)) = false := by simpa using hb19
              refine GmT.keep [0, 1, 6, 7, 40] (S' := [(0, .string a0), (1, .string a1), (6, .string y14), (7, .string y16), (40, .bool false)]) (by simp only [hb19]; kernel_rfl) ?_
              refine GmT.p' 7 41 (undef) (by kernel_rfl) (by kernel_rfl) ?_
              refine GmT.p' 8 42 (undef) (by kernel_rfl) (by kernel_rfl) ?_
              refine GmT.p' 9 43 (undef) (by kernel_rfl) (by kernel_rfl) ?_
              refine GmT.p' 10 44 (.bool false) (by kernel_rfl) (by kernel_rfl) ?_
              refine GmT.p' 11 45 (.bool false) (by kernel_rfl) (by kernel_rfl) ?_
              refine GmT.p' 12 46 (undef) (by kernel_rfl) (by kernel_rfl) ?_
              refine GmT.p' 13 47 (undef) (by kernel_rfl) (by kernel_rfl) ?_
              refine GmT.p' 14 48 (undef) (by kernel_rfl) (by kernel_rfl) ?_
              refine GmT.p' 15 49 (undef) (by kernel_rfl) (by kernel_rfl) ?_
              refine GmT.p' 16 50 (undef) (by kernel_rfl) (by kernel_rfl) ?_
              refine GmT.p' 17 51 (undef) (by kernel_rfl) (by kernel_rfl) ?_
              refine GmT.p' 18 52 (undef) (by kernel_rfl) (by kernel_rfl) ?_
              refine GmT.p' 19 53 (undef) (by kernel_rfl) (by kernel_rfl) ?_
              refine GmT.p' 20 54 (undef) (by kernel_rfl) (by kernel_rfl) ?_
              refine GmT.p' 21 55 (undef) (by kernel_rfl) (by kernel_rfl) ?_
              refine GmT.p' 22 56 (undef) (by kernel_rfl) (by kernel_rfl) ?_
              refine GmT.p' 23 57 (undef) (by kernel_rfl) (by kernel_rfl) ?_
              refine GmT.p' 24 58 (undef) (by kernel_rfl) (by kernel_rfl) ?_
              refine GmT.p' 25 59 (.bool false) (by kernel_rfl) (by kernel_rfl) ?_
              refine GmT.p' 26 4 (.bool false) (by kernel_rfl) (by kernel_rfl) ?_
              refine GmT.done (by kernel_rfl) ?_
              have e := someS h1
              subst e
              exact Qn.thenJ fun a ha => ⟨false, rfl, ha.keep [4] (by kernel_rfl), hI⟩
          · rw [if_neg hb18] at h1
            have hb18 : y2 = false := by simpa using hb18
            refine GmT.keep [0, 1, 6, 7, 35] (S' := [(0, .string a0), (1, .string a1), (6, .string y14), (7, .string y16), (35, .bool false)]) (by simp only [hb18]; kernel_rfl) ?_
            refine GmT.p' 2 36 (undef) (by kernel_rfl) (by kernel_rfl) ?_
            refine GmT.p' 3 37 (undef) (by kernel_rfl) (by kernel_rfl) ?_
            refine GmT.p' 4 38 (undef) (by kernel_rfl) (by kernel_rfl) ?_
            refine GmT.p' 5 39 (.bool false) (by kernel_rfl) (by kernel_rfl) ?_
            refine GmT.p' 6 40 (.bool false) (by kernel_rfl) (by kernel_rfl) ?_
            refine GmT.p' 7 41 (undef) (by kernel_rfl) (by kernel_rfl) ?_
            refine GmT.p' 8 42 (undef) (by kernel_rfl) (by kernel_rfl) ?_
            refine GmT.p' 9 43 (undef) (by kernel_rfl) (by kernel_rfl) ?_
            refine GmT.p' 10 44 (.bool false) (by kernel_rfl) (by kernel_rfl) ?_
            refine GmT.p' 11 45 (.bool false) (by kernel_rfl) (by kernel_rfl) ?_
            refine GmT.p' 12 46 (undef) (by kernel_rfl) (by kernel_rfl) ?_
            refine GmT.p' 13 47 (undef) (by kernel_rfl) (by kernel_rfl) ?_
            refine GmT.p' 14 48 (undef) (by kernel_rfl) (by kernel_rfl) ?_
            refine GmT.p' 15 49 (undef) (by kernel_rfl) (by kernel_rfl) ?_
            refine GmT.p' 16 50 (undef) (by kernel_rfl) (by kernel_rfl) ?_
            refine GmT.p' 17 51 (undef) (by kernel_rfl) (by kernel_rfl) ?_
            refine GmT.p' 18 52 (undef) (by kernel_rfl) (by kernel_rfl) ?_
            refine GmT.p' 19 53 (undef) (by kernel_rfl) (by kernel_rfl) ?_
            refine GmT.p' 20 54 (undef) (by kernel_rfl) (by kernel_rfl) ?_
            refine GmT.p' 21 55 (undef) (by kernel_rfl) (by kernel_rfl) ?_
            refine GmT.p' 22 56 (undef) (by kernel_rfl) (by kernel_rfl) ?_
            refine GmT.p' 23 57 (undef) (by kernel_rfl) (by kernel_rfl) ?_
            refine GmT.p' 24 58 (undef) (by kernel_rfl) (by kernel_rfl) ?_
            refine GmT.p' 25 59 (.bool false) (by kernel_rfl) (by kernel_rfl) ?_
            refine GmT.p' 26 4 (.bool false) (by kernel_rfl) (by kernel_rfl) ?_
            refine GmT.done (by kernel_rfl) ?_
            have e := someS h1
            subst e
            exact Qn.thenJ fun a ha => ⟨false, rfl, ha.keep [4] (by kernel_rfl), hI⟩
        ·
          rintro a w ⟨x17, rfl, ha, hI⟩
          try dsimp only at h0
          refine CodT.of ?_ ha
          refine CodT.ret ?_
          have e := someS h0
          subst e
          refine Qn.keep [4] (S' := [(4, .bool x17)]) (by kernel_rfl) ?_
          exact post_ret (v := .bool x17) (fun a ha => RunRes.run (vs := [.bool x17]) (.tmp (t := 4) (by kernel_rfl) .nil) ha (by kernel_rfl)) ⟨rfl, hI⟩
end Go.Cen
