/- The walk of the law NameOrder, printed by a program of ours. -/
import Derived.Test.YthdoklobbcedcabDoorWx1
set_option linter.unusedVariables false
set_option linter.unusedSimpArgs false
namespace Go.Cen
set_option maxRecDepth 100000 in
set_option maxHeartbeats 4000000 in
/-- cenotaph/cenotaphlaw03.NameOrder -/
theorem c4 (w0 w : World) (Z : Hp) (A : HP) (hI : Inv w0 Z w A) (hT : Tabs Z) (a0 : ByteArray) (a1 : ByteArray) (a2 : ByteArray) (r : Bool) (h0 : law03_NameOrder a0 a1 a2 = some r) :
    Calls prog 4 #[.string a0, .string a1, .string a2] w (fun e w' => e = .returned (.bool r) ∧ Inv w0 Z w' A) := by
  have e4 := calls_intro (R := (fun e w' => e = .returned (.bool r) ∧ Inv w0 Z w' A)) (w := w) (args := [.string a0, .string a1, .string a2]) (fn := Go.Proofs.Tryd.f4) 76 Go.Proofs.Tryd.func4 (by rfl) Go.Proofs.Tryd.ntmps4 (by kernel_rfl)
  refine e4 ?_
  clear e4
  unfold law03_NameOrder at h0
  refine CodT.seq ?_
  refine CodT.regionL [0] (by kernel_rfl) ?_
  refine OpsT.pures (r := []) [0] [0, 1, 2] (S' := [(0, .string a0), (1, .string a1), (2, .string a2)]) (by kernel_rfl) ?_
  refine OpsT.done ?_
  refine Qn.then ?_
  refine CodT.seq ?_
  refine CodT.regionL [0, 1] (by kernel_rfl) ?_
  obtain ⟨y2, hc1, h0⟩ := bindS h0
  try dsimp only at h0
  refine OpsT.cons (Does.call (d := some 11) (n := 8) (vs := []) (by kernel_rfl) en8 (c8 w0 w _ _ hI hT _ hc1) ?_)
  rintro e w ⟨rfl, hI⟩
  refine ⟨_, rfl, ?_⟩
  refine OpsT.pures (r := []) [1] [0, 1, 2, 7] (S' := [(0, .string a0), (1, .string a1), (2, .string a2), (7, .bool y2)]) (by kernel_rfl) ?_
  refine OpsT.done ?_
  refine Qn.then ?_
  refine CodT.seq ?_
  refine CodT.seq ?_
  refine CodT.regionL [0, 1] (by kernel_rfl) ?_
  refine OpsT.pures (r := []) [0, 1] [0, 1, 2, 7, 13] (S' := [(0, .string a0), (1, .string a1), (2, .string a2), (7, .bool y2), (13, .bool (!y2))]) (by kernel_rfl) ?_
  refine OpsT.done ?_
  refine Qn.then ?_
  by_cases hb3 : (!y2) = true
  · rw [if_pos hb3] at h0
    refine CodT.yes' (b := !y2) (by kernel_rfl) hb3 ?_
    refine CodT.seq ?_
    refine CodT.regionL [0] (by kernel_rfl) ?_
    refine OpsT.pures (r := []) [0] [6] (S' := [(6, .bool false)]) (by kernel_rfl) ?_
    refine OpsT.done ?_
    refine Qn.then ?_
    refine CodT.ret ?_
    refine Qn.ret_then ?_
    have e := someS h0
    subst e
    refine Qn.keep [6] (S' := [(6, .bool false)]) (by kernel_rfl) ?_
    exact post_ret (v := .bool false) (fun a ha => RunRes.run (vs := [.bool false]) (.tmp (t := 6) (by kernel_rfl) .nil) ha (by kernel_rfl)) ⟨rfl, hI⟩
  · rw [if_neg hb3] at h0
    refine CodT.no' (b := !y2) (by kernel_rfl) (by simpa using hb3) ?_
    refine CodT.skip ?_
    refine Qn.then ?_
    refine CodT.seq ?_
    obtain ⟨r1, h1, h0⟩ := bindS h0
    refine CodT.meet (fun a w => ∃ (x4 : Bool), x4 = r1 ∧ Fr 76 [(0, .string a0), (1, .string a1), (2, .string a2), (7, .bool y2), (26, .bool x4)] a ∧ Inv w0 Z w A) ?_ ?_
    ·
      refine CodT.regionL [0, 1, 2, 3, 4, 5, 6, 7, 8, 9, 10, 11, 12] (by kernel_rfl) ?_
      refine OpsT.pures (r := [4, 5, 6, 7, 8, 9, 10, 11, 12]) [0, 1, 2, 3] [0, 1, 2, 7, 17] (S' := [(0, .string a0), (1, .string a1), (2, .string a2), (7, .bool y2), (17, .bool (decide ((a0.size : Int) > 200)))]) (by kernel_rfl) ?_
      by_cases hb5 : (decide ((a0.size : Int) > 200)) = true
      · rw [if_pos hb5] at h1
        refine OpsT.keep [0, 1, 2, 7, 17] (S' := [(0, .string a0), (1, .string a1), (2, .string a2), (7, .bool y2), (17, .bool true)]) (by simp only [hb5]; kernel_rfl) ?_
        refine OpsT.pures (r := []) [4, 5, 6, 7, 8, 9, 10, 11, 12] [0, 1, 2, 7, 26] (S' := [(0, .string a0), (1, .string a1), (2, .string a2), (7, .bool y2), (26, .bool true)]) (by kernel_rfl) ?_
        refine OpsT.done ?_
        have e := someS h1
        subst e
        exact Qn.thenJ fun a ha => ⟨true, rfl, ha.keep [0, 1, 2, 7, 26] (by kernel_rfl), hI⟩
      · rw [if_neg hb5] at h1
        have hb5 : (decide ((a0.size : Int) > 200)) = false := by simpa using hb5
        refine OpsT.keep [0, 1, 2, 7, 17] (S' := [(0, .string a0), (1, .string a1), (2, .string a2), (7, .bool y2), (17, .bool false)]) (by simp only [hb5]; kernel_rfl) ?_
        refine OpsT.pures (r := [9, 10, 11, 12]) [4, 5, 6, 7, 8] [0, 1, 2, 7, 22] (S' := [(0, .string a0), (1, .string a1), (2, .string a2), (7, .bool y2), (22, .bool (decide ((a1.size : Int) > 200)))]) (by kernel_rfl) ?_
        by_cases hb6 : (decide ((a1.size : Int) > 200)) = true
        · rw [if_pos hb6] at h1
          refine OpsT.keep [0, 1, 2, 7, 22] (S' := [(0, .string a0), (1, .string a1), (2, .string a2), (7, .bool y2), (22, .bool true)]) (by simp only [hb6]; kernel_rfl) ?_
          refine OpsT.pures (r := []) [9, 10, 11, 12] [0, 1, 2, 7, 26] (S' := [(0, .string a0), (1, .string a1), (2, .string a2), (7, .bool y2), (26, .bool true)]) (by kernel_rfl) ?_
          refine OpsT.done ?_
          have e := someS h1
          subst e
          exact Qn.thenJ fun a ha => ⟨true, rfl, ha.keep [0, 1, 2, 7, 26] (by kernel_rfl), hI⟩
        · rw [if_neg hb6] at h1
          have hb6 : (decide ((a1.size : Int) > 200)) = false := by simpa using hb6
          refine OpsT.keep [0, 1, 2, 7, 22] (S' := [(0, .string a0), (1, .string a1), (2, .string a2), (7, .bool y2), (22, .bool false)]) (by simp only [hb6]; kernel_rfl) ?_
          refine OpsT.pures (r := []) [9, 10, 11, 12] [0, 1, 2, 7, 26] (S' := [(0, .string a0), (1, .string a1), (2, .string a2), (7, .bool y2), (26, .bool (decide ((a2.size : Int) > 200)))]) (by kernel_rfl) ?_
          refine OpsT.done ?_
          have e := someS h1
          subst e
          exact Qn.thenJ fun a ha => ⟨decide ((a2.size : Int) > 200), rfl, ha.keep [0, 1, 2, 7, 26] (by kernel_rfl), hI⟩
    ·
      rintro a w ⟨x4, rfl, ha, hI⟩
      try dsimp only at h0
      refine CodT.of ?_ ha
      by_cases hb7 : x4 = true
      · rw [if_pos hb7] at h0
        refine CodT.yes' (b := x4) (by kernel_rfl) hb7 ?_
        refine CodT.seq ?_
        refine CodT.regionL [0, 1] (by kernel_rfl) ?_
        refine OpsT.pures (r := []) [0, 1] [6] (S' := [(6, .bool y2)]) (by kernel_rfl) ?_
        refine OpsT.done ?_
        refine Qn.then ?_
        refine CodT.ret ?_
        refine Qn.ret_then ?_
        have e := someS h0
        subst e
        refine Qn.keep [6] (S' := [(6, .bool y2)]) (by kernel_rfl) ?_
        exact post_ret (v := .bool y2) (fun a ha => RunRes.run (vs := [.bool y2]) (.tmp (t := 6) (by kernel_rfl) .nil) ha (by kernel_rfl)) ⟨rfl, hI⟩
      · rw [if_neg hb7] at h0
        refine CodT.no' (b := x4) (by kernel_rfl) (by simpa using hb7) ?_
        refine CodT.skip ?_
        refine Qn.then ?_
        refine CodT.seq ?_
        refine CodT.regionL [0, 1, 2, 3] (by kernel_rfl) ?_
        refine OpsT.pures (r := [2, 3]) [0, 1] [0, 1, 2, 7, 28, 29] (S' := [(0, .string a0), (1, .string a1), (2, .string a2), (7, .bool y2), (28, .string a0), (29, .string a1)]) (by kernel_rfl) ?_
        obtain ⟨y9, hc8, h0⟩ := bindS h0
        try dsimp only at h0
        refine OpsT.cons (Does.call (d := some 30) (n := 12) (vs := [.string a0, .string a1]) (by kernel_rfl) en12 (c12 w0 w _ _ hI hT a0 a1 _ hc8) ?_)
        rintro e w ⟨rfl, hI⟩
        refine ⟨_, rfl, ?_⟩
        refine OpsT.pures (r := []) [3] [0, 1, 2, 7, 8] (S' := [(0, .string a0), (1, .string a1), (2, .string a2), (7, .bool y2), (8, .bool y9)]) (by kernel_rfl) ?_
        refine OpsT.done ?_
        refine Qn.then ?_
        refine CodT.seq ?_
        refine CodT.regionL [0, 1, 2, 3] (by kernel_rfl) ?_
        refine OpsT.pures (r := [2, 3]) [0, 1] [0, 1, 2, 7, 8, 31, 32] (S' := [(0, .string a0), (1, .string a1), (2, .string a2), (7, .bool y2), (8, .bool y9), (31, .string a1), (32, .string a0)]) (by kernel_rfl) ?_
        obtain ⟨y11, hc10, h0⟩ := bindS h0
        try dsimp only at h0
        refine OpsT.cons (Does.call (d := some 33) (n := 12) (vs := [.string a1, .string a0]) (by kernel_rfl) en12 (c12 w0 w _ _ hI hT a1 a0 _ hc10) ?_)
        rintro e w ⟨rfl, hI⟩
        refine ⟨_, rfl, ?_⟩
        refine OpsT.pures (r := []) [3] [0, 1, 2, 7, 8, 9] (S' := [(0, .string a0), (1, .string a1), (2, .string a2), (7, .bool y2), (8, .bool y9), (9, .bool y11)]) (by kernel_rfl) ?_
        refine OpsT.done ?_
        refine Qn.then ?_
        refine CodT.seq ?_
        refine CodT.regionL [0, 1, 2, 3] (by kernel_rfl) ?_
        refine OpsT.pures (r := [2, 3]) [0, 1] [0, 1, 2, 7, 8, 9, 34, 35] (S' := [(0, .string a0), (1, .string a1), (2, .string a2), (7, .bool y2), (8, .bool y9), (9, .bool y11), (34, .string a1), (35, .string a2)]) (by kernel_rfl) ?_
        obtain ⟨y13, hc12, h0⟩ := bindS h0
        try dsimp only at h0
        refine OpsT.cons (Does.call (d := some 36) (n := 12) (vs := [.string a1, .string a2]) (by kernel_rfl) en12 (c12 w0 w _ _ hI hT a1 a2 _ hc12) ?_)
        rintro e w ⟨rfl, hI⟩
        refine ⟨_, rfl, ?_⟩
        refine OpsT.pures (r := []) [3] [0, 1, 2, 7, 8, 9, 10] (S' := [(0, .string a0), (1, .string a1), (2, .string a2), (7, .bool y2), (8, .bool y9), (9, .bool y11), (10, .bool y13)]) (by kernel_rfl) ?_
        refine OpsT.done ?_
        refine Qn.then ?_
        obtain ⟨r1, h1, h0⟩ := bindS h0
        refine CodT.meet (fun a w => ∃ (x14 : Bool), x14 = r1 ∧ Fr 76 [(6, .bool x14)] a ∧ Inv w0 Z w A) ?_ ?_
        ·
          refine CodT.regionL [0, 1, 2, 3, 4, 5, 6, 7, 8, 9, 10, 11, 12, 13, 14, 15, 16, 17, 18, 19, 20, 21, 22, 23, 24, 25, 26, 27, 28, 29, 30, 31, 32, 33, 34, 35, 36, 37, 38, 39] (by kernel_rfl) ?_
          refine OpsT.pures (r := [2, 3, 4, 5, 6, 7, 8, 9, 10, 11, 12, 13, 14, 15, 16, 17, 18, 19, 20, 21, 22, 23, 24, 25, 26, 27, 28, 29, 30, 31, 32, 33, 34, 35, 36, 37, 38, 39]) [0, 1] [0, 1, 2, 8, 9, 10, 38] (S' := [(0, .string a0), (1, .string a1), (2, .string a2), (8, .bool y9), (9, .bool y11), (10, .bool y13), (38, .bool y2)]) (by kernel_rfl) ?_
          by_cases hb15 : y2 = true
          · rw [if_pos hb15] at h1
            refine OpsT.keep [0, 1, 2, 8, 9, 10, 38] (S' := [(0, .string a0), (1, .string a1), (2, .string a2), (8, .bool y9), (9, .bool y11), (10, .bool y13), (38, .bool true)]) (by simp only [hb15]; kernel_rfl) ?_
            refine OpsT.pures (r := [4, 5, 6, 7, 8, 9, 10, 11, 12, 13, 14, 15, 16, 17, 18, 19, 20, 21, 22, 23, 24, 25, 26, 27, 28, 29, 30, 31, 32, 33, 34, 35, 36, 37, 38, 39]) [2, 3] [0, 1, 2, 8, 9, 10, 38, 40] (S' := [(0, .string a0), (1, .string a1), (2, .string a2), (8, .bool y9), (9, .bool y11), (10, .bool y13), (38, .bool true), (40, .bool y9)]) (by kernel_rfl) ?_
            by_cases hb16 : y9 = true
            · rw [if_pos hb16] at h1
              refine OpsT.keep [0, 1, 2, 8, 9, 10, 38, 40] (S' := [(0, .string a0), (1, .string a1), (2, .string a2), (8, .bool true), (9, .bool y11), (10, .bool y13), (38, .bool true), (40, .bool true)]) (by simp only [hb16]; kernel_rfl) ?_
              refine OpsT.pures (r := [9, 10, 11, 12, 13, 14, 15, 16, 17, 18, 19, 20, 21, 22, 23, 24, 25, 26, 27, 28, 29, 30, 31, 32, 33, 34, 35, 36, 37, 38, 39]) [4, 5, 6, 7, 8] [0, 1, 2, 8, 9, 10, 45] (S' := [(0, .string a0), (1, .string a1), (2, .string a2), (8, .bool true), (9, .bool y11), (10, .bool y13), (45, .bool (!y11))]) (by kernel_rfl) ?_
              by_cases hb17 : (!y11) = true
              · rw [if_pos hb17] at h1
                refine OpsT.keep [0, 1, 2, 8, 9, 10, 45] (S' := [(0, .string a0), (1, .string a1), (2, .string a2), (8, .bool true), (9, .bool y11), (10, .bool y13), (45, .bool true)]) (by simp only [hb17]; kernel_rfl) ?_
                refine OpsT.pures (r := [19, 20, 21, 22, 23, 24, 25, 26, 27, 28, 29, 30, 31, 32, 33, 34, 35, 36, 37, 38, 39]) [9, 10, 11, 12, 13, 14, 15, 16, 17, 18] [0, 2, 8, 10, 55] (S' := [(0, .string a0), (2, .string a2), (8, .bool true), (10, .bool y13), (55, .bool (true == (!(seq a0 a1))))]) (by kernel_rfl) ?_
                by_cases hb18 : (true == (!(seq a0 a1))) = true
                · rw [if_pos hb18] at h1
                  refine OpsT.keep [0, 2, 8, 10, 55] (S' := [(0, .string a0), (2, .string a2), (8, .bool true), (10, .bool y13), (55, .bool true)]) (by simp only [hb18]; kernel_rfl) ?_
                  refine OpsT.pures (r := [26, 27, 28, 29, 30, 31, 32, 33, 34, 35, 36, 37, 38, 39]) [19, 20, 21, 22, 23, 24, 25] [0, 2, 55, 62] (S' := [(0, .string a0), (2, .string a2), (55, .bool true), (62, .bool (!y13))]) (by kernel_rfl) ?_
                  by_cases hb19 : (!y13) = true
                  · rw [if_pos hb19] at h1
                    refine OpsT.keep [0, 2, 55, 62] (S' := [(0, .string a0), (2, .string a2), (55, .bool true), (62, .bool true)]) (by simp only [hb19]; kernel_rfl) ?_
                    refine OpsT.pures (r := [35, 36, 37, 38, 39]) [26, 27, 28, 29, 30, 31, 32, 33, 34] [0, 68, 71] (S' := [(0, .string a0), (68, .bool true), (71, .bool (seq a0 (⟨#[]⟩ : ByteArray)))]) (by kernel_rfl) ?_
                    by_cases hb20 : (seq a0 (⟨#[]⟩ : ByteArray)) = true
                    · rw [if_pos hb20] at h1
                      refine OpsT.keep [0, 68, 71] (S' := [(0, .string a0), (68, .bool true), (71, .bool true)]) (by simp only [hb20]; kernel_rfl) ?_
                      refine OpsT.pures (r := []) [35, 36, 37, 38, 39] [6] (S' := [(6, .bool true)]) (by kernel_rfl) ?_
                      refine OpsT.done ?_
                      have e := someS h1
                      subst e
                      exact Qn.thenJ fun a ha => ⟨true, rfl, ha.keep [6] (by kernel_rfl), hI⟩
                    · rw [if_neg hb20] at h1
                      have hb20 : (seq a0 (⟨#[]⟩ : ByteArray)) = false := by simpa using hb20
                      refine OpsT.keep [0, 68, 71] (S' := [(0, .string a0), (68, .bool true), (71, .bool false)]) (by simp only [hb20]; kernel_rfl) ?_
                      refine OpsT.pures (r := [36, 37, 38, 39]) [35] [68, 71, 72] (S' := [(68, .bool true), (71, .bool false), (72, .string a0)]) (by kernel_rfl) ?_
                      obtain ⟨y22, hc21, h1⟩ := bindS h1
                      try dsimp only at h1
                      refine OpsT.cons (Does.call (d := some 73) (n := 12) (vs := [.string (⟨#[]⟩ : ByteArray), .string a0]) (by kernel_rfl) en12 (c12 w0 w _ _ hI hT (⟨#[]⟩ : ByteArray) a0 _ hc21) ?_)
                      rintro e w ⟨rfl, hI⟩
                      refine ⟨_, rfl, ?_⟩
                      refine OpsT.pures (r := []) [37, 38, 39] [6] (S' := [(6, .bool y22)]) (by kernel_rfl) ?_
                      refine OpsT.done ?_
                      have e := someS h1
                      subst e
                      exact Qn.thenJ fun a ha => ⟨y22, rfl, ha.keep [6] (by kernel_rfl), hI⟩
                  · rw [if_neg hb19] at h1
                    have hb19 : (!y13) = false := by simpa using hb19
                    refine OpsT.keep [0, 2, 55, 62] (S' := [(0, .string a0), (2, .string a2), (55, .bool true), (62, .bool false)]) (by simp only [hb19]; kernel_rfl) ?_
                    refine OpsT.pures (r := [28, 29, 30, 31, 32, 33, 34, 35, 36, 37, 38, 39]) [26, 27] [0, 55, 62, 63, 64] (S' := [(0, .string a0), (55, .bool true), (62, .bool false), (63, .string a0), (64, .string a2)]) (by kernel_rfl) ?_
                    obtain ⟨y24, hc23, h1⟩ := bindS h1
                    try dsimp only at h1
                    refine OpsT.cons (Does.call (d := some 65) (n := 12) (vs := [.string a0, .string a2]) (by kernel_rfl) en12 (c12 w0 w _ _ hI hT a0 a2 _ hc23) ?_)
                    rintro e w ⟨rfl, hI⟩
                    refine ⟨_, rfl, ?_⟩
                    refine OpsT.pures (r := [32, 33, 34, 35, 36, 37, 38, 39]) [29, 30, 31] [0, 68] (S' := [(0, .string a0), (68, .bool y24)]) (by kernel_rfl) ?_
                    by_cases hb25 : y24 = true
                    · rw [if_pos hb25] at h1
                      refine OpsT.keep [0, 68] (S' := [(0, .string a0), (68, .bool true)]) (by simp only [hb25]; kernel_rfl) ?_
                      refine OpsT.pures (r := [35, 36, 37, 38, 39]) [32, 33, 34] [0, 68, 71] (S' := [(0, .string a0), (68, .bool true), (71, .bool (seq a0 (⟨#[]⟩ : ByteArray)))]) (by kernel_rfl) ?_
                      by_cases hb26 : (seq a0 (⟨#[]⟩ : ByteArray)) = true
                      · rw [if_pos hb26] at h1
                        refine OpsT.keep [0, 68, 71] (S' := [(0, .string a0), (68, .bool true), (71, .bool true)]) (by simp only [hb26]; kernel_rfl) ?_
                        refine OpsT.pures (r := []) [35, 36, 37, 38, 39] [6] (S' := [(6, .bool true)]) (by kernel_rfl) ?_
                        refine OpsT.done ?_
                        have e := someS h1
                        subst e
                        exact Qn.thenJ fun a ha => ⟨true, rfl, ha.keep [6] (by kernel_rfl), hI⟩
                      · rw [if_neg hb26] at h1
                        have hb26 : (seq a0 (⟨#[]⟩ : ByteArray)) = false := by simpa using hb26
                        refine OpsT.keep [0, 68, 71] (S' := [(0, .string a0), (68, .bool true), (71, .bool false)]) (by simp only [hb26]; kernel_rfl) ?_
                        refine OpsT.pures (r := [36, 37, 38, 39]) [35] [68, 71, 72] (S' := [(68, .bool true), (71, .bool false), (72, .string a0)]) (by kernel_rfl) ?_
                        obtain ⟨y28, hc27, h1⟩ := bindS h1
                        try dsimp only at h1
                        refine OpsT.cons (Does.call (d := some 73) (n := 12) (vs := [.string (⟨#[]⟩ : ByteArray), .string a0]) (by kernel_rfl) en12 (c12 w0 w _ _ hI hT (⟨#[]⟩ : ByteArray) a0 _ hc27) ?_)
                        rintro e w ⟨rfl, hI⟩
                        refine ⟨_, rfl, ?_⟩
                        refine OpsT.pures (r := []) [37, 38, 39] [6] (S' := [(6, .bool y28)]) (by kernel_rfl) ?_
                        refine OpsT.done ?_
                        have e := someS h1
                        subst e
                        exact Qn.thenJ fun a ha => ⟨y28, rfl, ha.keep [6] (by kernel_rfl), hI⟩
                    · rw [if_neg hb25] at h1
                      have hb25 : y24 = false := by simpa using hb25
                      refine OpsT.keep [0, 68] (S' := [(0, .string a0), (68, .bool false)]) (by simp only [hb25]; kernel_rfl) ?_
                      refine OpsT.pures (r := []) [32, 33, 34, 35, 36, 37, 38, 39] [6] (S' := [(6, .bool false)]) (by kernel_rfl) ?_
                      refine OpsT.done ?_
                      have e := someS h1
                      subst e
                      exact Qn.thenJ fun a ha => ⟨false, rfl, ha.keep [6] (by kernel_rfl), hI⟩
                · rw [if_neg hb18] at h1
                  have hb18 : (true == (!(seq a0 a1))) = false := by simpa using hb18
                  refine OpsT.keep [0, 2, 8, 10, 55] (S' := [(0, .string a0), (2, .string a2), (8, .bool true), (10, .bool y13), (55, .bool false)]) (by simp only [hb18]; kernel_rfl) ?_
                  refine OpsT.pures (r := []) [19, 20, 21, 22, 23, 24, 25, 26, 27, 28, 29, 30, 31, 32, 33, 34, 35, 36, 37, 38, 39] [6] (S' := [(6, .bool false)]) (by kernel_rfl) ?_
                  refine OpsT.done ?_
                  have e := someS h1
                  subst e
                  exact Qn.thenJ fun a ha => ⟨false, rfl, ha.keep [6] (by kernel_rfl), hI⟩
              · rw [if_neg hb17] at h1
                have hb17 : (!y11) = false := by simpa using hb17
                refine OpsT.keep [0, 1, 2, 8, 9, 10, 45] (S' := [(0, .string a0), (1, .string a1), (2, .string a2), (8, .bool true), (9, .bool y11), (10, .bool y13), (45, .bool false)]) (by simp only [hb17]; kernel_rfl) ?_
                refine OpsT.pures (r := []) [9, 10, 11, 12, 13, 14, 15, 16, 17, 18, 19, 20, 21, 22, 23, 24, 25, 26, 27, 28, 29, 30, 31, 32, 33, 34, 35, 36, 37, 38, 39] [6] (S' := [(6, .bool false)]) (by kernel_rfl) ?_
                refine OpsT.done ?_
                have e := someS h1
                subst e
                exact Qn.thenJ fun a ha => ⟨false, rfl, ha.keep [6] (by kernel_rfl), hI⟩
            · rw [if_neg hb16] at h1
              have hb16 : y9 = false := by simpa using hb16
              refine OpsT.keep [0, 1, 2, 8, 9, 10, 38, 40] (S' := [(0, .string a0), (1, .string a1), (2, .string a2), (8, .bool false), (9, .bool y11), (10, .bool y13), (38, .bool true), (40, .bool false)]) (by simp only [hb16]; kernel_rfl) ?_
              refine OpsT.pures (r := [19, 20, 21, 22, 23, 24, 25, 26, 27, 28, 29, 30, 31, 32, 33, 34, 35, 36, 37, 38, 39]) [4, 5, 6, 7, 8, 9, 10, 11, 12, 13, 14, 15, 16, 17, 18] [0, 2, 8, 10, 55] (S' := [(0, .string a0), (2, .string a2), (8, .bool false), (10, .bool y13), (55, .bool (y11 == (!(seq a0 a1))))]) (by kernel_rfl) ?_
              by_cases hb29 : (y11 == (!(seq a0 a1))) = true
              · rw [if_pos hb29] at h1
                refine OpsT.keep [0, 2, 8, 10, 55] (S' := [(0, .string a0), (2, .string a2), (8, .bool false), (10, .bool y13), (55, .bool true)]) (by simp only [hb29]; kernel_rfl) ?_
                refine OpsT.pures (r := [35, 36, 37, 38, 39]) [19, 20, 21, 22, 23, 24, 25, 26, 27, 28, 29, 30, 31, 32, 33, 34] [0, 68, 71] (S' := [(0, .string a0), (68, .bool true), (71, .bool (seq a0 (⟨#[]⟩ : ByteArray)))]) (by kernel_rfl) ?_
                by_cases hb30 : (seq a0 (⟨#[]⟩ : ByteArray)) = true
                · rw [if_pos hb30] at h1
                  refine OpsT.keep [0, 68, 71] (S' := [(0, .string a0), (68, .bool true), (71, .bool true)]) (by simp only [hb30]; kernel_rfl) ?_
                  refine OpsT.pures (r := []) [35, 36, 37, 38, 39] [6] (S' := [(6, .bool true)]) (by kernel_rfl) ?_
                  refine OpsT.done ?_
                  have e := someS h1
                  subst e
                  exact Qn.thenJ fun a ha => ⟨true, rfl, ha.keep [6] (by kernel_rfl), hI⟩
                · rw [if_neg hb30] at h1
                  have hb30 : (seq a0 (⟨#[]⟩ : ByteArray)) = false := by simpa using hb30
                  refine OpsT.keep [0, 68, 71] (S' := [(0, .string a0), (68, .bool true), (71, .bool false)]) (by simp only [hb30]; kernel_rfl) ?_
                  refine OpsT.pures (r := [36, 37, 38, 39]) [35] [68, 71, 72] (S' := [(68, .bool true), (71, .bool false), (72, .string a0)]) (by kernel_rfl) ?_
                  obtain ⟨y32, hc31, h1⟩ := bindS h1
                  try dsimp only at h1
                  refine OpsT.cons (Does.call (d := some 73) (n := 12) (vs := [.string (⟨#[]⟩ : ByteArray), .string a0]) (by kernel_rfl) en12 (c12 w0 w _ _ hI hT (⟨#[]⟩ : ByteArray) a0 _ hc31) ?_)
                  rintro e w ⟨rfl, hI⟩
                  refine ⟨_, rfl, ?_⟩
                  refine OpsT.pures (r := []) [37, 38, 39] [6] (S' := [(6, .bool y32)]) (by kernel_rfl) ?_
                  refine OpsT.done ?_
                  have e := someS h1
                  subst e
                  exact Qn.thenJ fun a ha => ⟨y32, rfl, ha.keep [6] (by kernel_rfl), hI⟩
              · rw [if_neg hb29] at h1
                have hb29 : (y11 == (!(seq a0 a1))) = false := by simpa using hb29
                refine OpsT.keep [0, 2, 8, 10, 55] (S' := [(0, .string a0), (2, .string a2), (8, .bool false), (10, .bool y13), (55, .bool false)]) (by simp only [hb29]; kernel_rfl) ?_
                refine OpsT.pures (r := []) [19, 20, 21, 22, 23, 24, 25, 26, 27, 28, 29, 30, 31, 32, 33, 34, 35, 36, 37, 38, 39] [6] (S' := [(6, .bool false)]) (by kernel_rfl) ?_
                refine OpsT.done ?_
                have e := someS h1
                subst e
                exact Qn.thenJ fun a ha => ⟨false, rfl, ha.keep [6] (by kernel_rfl), hI⟩
          · rw [if_neg hb15] at h1
            have hb15 : y2 = false := by simpa using hb15
            refine OpsT.keep [0, 1, 2, 8, 9, 10, 38] (S' := [(0, .string a0), (1, .string a1), (2, .string a2), (8, .bool y9), (9, .bool y11), (10, .bool y13), (38, .bool false)]) (by simp only [hb15]; kernel_rfl) ?_
            refine OpsT.pures (r := []) [2, 3, 4, 5, 6, 7, 8, 9, 10, 11, 12, 13, 14, 15, 16, 17, 18, 19, 20, 21, 22, 23, 24, 25, 26, 27, 28, 29, 30, 31, 32, 33, 34, 35, 36, 37, 38, 39] [6] (S' := [(6, .bool false)]) (by kernel_rfl) ?_
            refine OpsT.done ?_
            have e := someS h1
            subst e
            exact Qn.thenJ fun a ha => ⟨false, rfl, ha.keep [6] (by kernel_rfl), hI⟩
        ·
          rintro a w ⟨x14, rfl, ha, hI⟩
          try dsimp only at h0
          refine CodT.of ?_ ha
          refine CodT.ret ?_
          have e := someS h0
          subst e
          refine Qn.keep [6] (S' := [(6, .bool x14)]) (by kernel_rfl) ?_
          exact post_ret (v := .bool x14) (fun a ha => RunRes.run (vs := [.bool x14]) (.tmp (t := 6) (by kernel_rfl) .nil) ha (by kernel_rfl)) ⟨rfl, hI⟩
end Go.Cen
