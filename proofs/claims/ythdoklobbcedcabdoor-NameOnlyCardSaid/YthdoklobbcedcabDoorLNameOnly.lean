/- The walk of the law NameOnly, printed by a program of ours. -/
import Derived.Test.YthdoklobbcedcabDoorWx1
set_option linter.unusedVariables false
set_option linter.unusedSimpArgs false
namespace Go.Cen
set_option maxRecDepth 100000 in
set_option maxHeartbeats 4000000 in
/-- cenotaph/cenotaphlaw03.NameOnly -/
theorem c7 (w0 w : World) (Z : Hp) (A : HP) (hI : Inv w0 Z w A) (hT : Tabs Z) (a0 : ByteArray) (r : Bool) (h0 : law03_NameOnly a0 = some r) :
    Calls prog 7 #[.string a0] w (fun e w' => e = .returned (.bool r) ∧ Inv w0 Z w' A) := by
  have e4 := calls_intro (R := (fun e w' => e = .returned (.bool r) ∧ Inv w0 Z w' A)) (w := w) (args := [.string a0]) (fn := Go.Proofs.Tryd.f7) 79 Go.Proofs.Tryd.func7 (by rfl) Go.Proofs.Tryd.ntmps7 (by kernel_rfl)
  refine e4 ?_
  clear e4
  unfold law03_NameOnly at h0
  refine CodT.seq ?_
  refine CodT.regionL [0] (by kernel_rfl) ?_
  refine OpsT.pures (r := []) [0] [0] (S' := [(0, .string a0)]) (by kernel_rfl) ?_
  refine OpsT.done ?_
  refine Qn.then ?_
  refine CodT.seq ?_
  refine CodT.regionL [0, 1] (by kernel_rfl) ?_
  obtain ⟨y2, hc1, h0⟩ := bindS h0
  try dsimp only at h0
  refine OpsT.cons (Does.call (d := some 12) (n := 8) (vs := []) (by kernel_rfl) en8 (c8 w0 w _ _ hI hT _ hc1) ?_)
  rintro e w ⟨rfl, hI⟩
  refine ⟨_, rfl, ?_⟩
  refine OpsT.pures (r := []) [1] [0, 3] (S' := [(0, .string a0), (3, .bool y2)]) (by kernel_rfl) ?_
  refine OpsT.done ?_
  refine Qn.then ?_
  refine CodT.seq ?_
  refine CodT.seq ?_
  refine CodT.regionL [0, 1] (by kernel_rfl) ?_
  refine OpsT.pures (r := []) [0, 1] [0, 3, 14] (S' := [(0, .string a0), (3, .bool y2), (14, .bool (!y2))]) (by kernel_rfl) ?_
  refine OpsT.done ?_
  refine Qn.then ?_
  by_cases hb3 : (!y2) = true
  · rw [if_pos hb3] at h0
    refine CodT.yes' (b := !y2) (by kernel_rfl) hb3 ?_
    refine CodT.seq ?_
    refine CodT.regionL [0] (by kernel_rfl) ?_
    refine OpsT.pures (r := []) [0] [2] (S' := [(2, .bool false)]) (by kernel_rfl) ?_
    refine OpsT.done ?_
    refine Qn.then ?_
    refine CodT.ret ?_
    refine Qn.ret_then ?_
    have e := someS h0
    subst e
    refine Qn.keep [2] (S' := [(2, .bool false)]) (by kernel_rfl) ?_
    exact post_ret (v := .bool false) (fun a ha => RunRes.run (vs := [.bool false]) (.tmp (t := 2) (by kernel_rfl) .nil) ha (by kernel_rfl)) ⟨rfl, hI⟩
  · rw [if_neg hb3] at h0
    refine CodT.no' (b := !y2) (by kernel_rfl) (by simpa using hb3) ?_
    refine CodT.skip ?_
    refine Qn.then ?_
    refine CodT.seq ?_
    refine CodT.seq ?_
    refine CodT.regionL [0, 1, 2] (by kernel_rfl) ?_
    refine OpsT.pures (r := []) [0, 1, 2] [0, 3, 17] (S' := [(0, .string a0), (3, .bool y2), (17, .bool (decide ((a0.size : Int) > 200)))]) (by kernel_rfl) ?_
    refine OpsT.done ?_
    refine Qn.then ?_
    by_cases hb4 : (decide ((a0.size : Int) > 200)) = true
    · rw [if_pos hb4] at h0
      refine CodT.yes' (b := decide ((a0.size : Int) > 200)) (by kernel_rfl) hb4 ?_
      refine CodT.seq ?_
      refine CodT.regionL [0, 1] (by kernel_rfl) ?_
      refine OpsT.pures (r := []) [0, 1] [2] (S' := [(2, .bool y2)]) (by kernel_rfl) ?_
      refine OpsT.done ?_
      refine Qn.then ?_
      refine CodT.ret ?_
      refine Qn.ret_then ?_
      have e := someS h0
      subst e
      refine Qn.keep [2] (S' := [(2, .bool y2)]) (by kernel_rfl) ?_
      exact post_ret (v := .bool y2) (fun a ha => RunRes.run (vs := [.bool y2]) (.tmp (t := 2) (by kernel_rfl) .nil) ha (by kernel_rfl)) ⟨rfl, hI⟩
    · rw [if_neg hb4] at h0
      refine CodT.no' (b := decide ((a0.size : Int) > 200)) (by kernel_rfl) (by simpa using hb4) ?_
      refine CodT.skip ?_
      refine Qn.then ?_
      refine CodT.seq ?_
      refine CodT.regionL [0, 1, 2, 3, 4, 5, 6] (by kernel_rfl) ?_
      refine OpsT.pures (r := [1, 2, 3, 4, 5, 6]) [0] [0, 3, 20] (S' := [(0, .string a0), (3, .bool y2), (20, .string a0)]) (by kernel_rfl) ?_
      obtain ⟨⟨y6, y7⟩, hc5, h0⟩ := bindS h0
      try dsimp only at h0
      refine OpsT.cons (Does.call (d := some 21) (n := 10) (vs := [.string a0]) (by kernel_rfl) en10 (c10 w0 w _ _ hI hT a0 _ hc5) ?_)
      rintro e w ⟨rfl, hI⟩
      refine ⟨_, rfl, ?_⟩
      refine OpsT.pures (r := []) [2, 3, 4, 5, 6] [0, 3, 4, 5] (S' := [(0, .string a0), (3, .bool y2), (4, .string y6), (5, .bool y7)]) (by kernel_rfl) ?_
      refine OpsT.done ?_
      refine Qn.then ?_
      refine CodT.seq ?_
      refine CodT.seq ?_
      refine CodT.regionL [0, 1] (by kernel_rfl) ?_
      refine OpsT.pures (r := []) [0, 1] [0, 3, 4, 25] (S' := [(0, .string a0), (3, .bool y2), (4, .string y6), (25, .bool (!y7))]) (by kernel_rfl) ?_
      refine OpsT.done ?_
      refine Qn.then ?_
      by_cases hb8 : (!y7) = true
      · rw [if_pos hb8] at h0
        refine CodT.yes' (b := !y7) (by kernel_rfl) hb8 ?_
        obtain ⟨r1, h1, h0⟩ := bindS h0
        refine CodT.meet (fun a w => ∃ (x9 : Bool), x9 = r1 ∧ Fr 79 [(2, .bool x9)] a ∧ Inv w0 Z w A) ?_ ?_
        ·
          refine CodT.regionL [0, 1, 2, 3, 4, 5] (by kernel_rfl) ?_
          refine OpsT.pures (r := [2, 3, 4, 5]) [0, 1] [4, 27] (S' := [(4, .string y6), (27, .bool y2)]) (by kernel_rfl) ?_
          by_cases hb10 : y2 = true
          · rw [if_pos hb10] at h1
            refine OpsT.keep [4, 27] (S' := [(4, .string y6), (27, .bool true)]) (by simp only [hb10]; kernel_rfl) ?_
            refine OpsT.pures (r := []) [2, 3, 4, 5] [2] (S' := [(2, .bool (seq y6 (⟨#[]⟩ : ByteArray)))]) (by kernel_rfl) ?_
            refine OpsT.done ?_
            have e := someS h1
            subst e
            exact Qn.thenJ fun a ha => ⟨seq y6 (⟨#[]⟩ : ByteArray), rfl, ha.keep [2] (by kernel_rfl), hI⟩
          · rw [if_neg hb10] at h1
            have hb10 : y2 = false := by simpa using hb10
            refine OpsT.keep [4, 27] (S' := [(4, .string y6), (27, .bool false)]) (by simp only [hb10]; kernel_rfl) ?_
            refine OpsT.pures (r := []) [2, 3, 4, 5] [2] (S' := [(2, .bool false)]) (by kernel_rfl) ?_
            refine OpsT.done ?_
            have e := someS h1
            subst e
            exact Qn.thenJ fun a ha => ⟨false, rfl, ha.keep [2] (by kernel_rfl), hI⟩
        ·
          rintro a w ⟨x9, rfl, ha, hI⟩
          try dsimp only at h0
          refine CodT.of ?_ ha
          refine CodT.ret ?_
          refine Qn.ret_then ?_
          have e := someS h0
          subst e
          refine Qn.keep [2] (S' := [(2, .bool x9)]) (by kernel_rfl) ?_
          exact post_ret (v := .bool x9) (fun a ha => RunRes.run (vs := [.bool x9]) (.tmp (t := 2) (by kernel_rfl) .nil) ha (by kernel_rfl)) ⟨rfl, hI⟩
      · rw [if_neg hb8] at h0
        refine CodT.no' (b := !y7) (by kernel_rfl) (by simpa using hb8) ?_
        refine CodT.skip ?_
        refine Qn.then ?_
        refine CodT.seq ?_
        refine CodT.regionL [0, 1, 2, 3, 4, 5, 6, 7] (by kernel_rfl) ?_
        refine OpsT.pures (r := [1, 2, 3, 4, 5, 6, 7]) [0] [0, 3, 4, 32] (S' := [(0, .string a0), (3, .bool y2), (4, .string y6), (32, .string a0)]) (by kernel_rfl) ?_
        obtain ⟨hg11, h0⟩ := guardS h0
        refine OpsT.cons (Does.yi (Yl.sliceStr10 (d := 33) (T := 9) (s := a0) (lo := 1) (by kernel_rfl) Go.Proofs.Tryd.underlying9 hg11) hI ?_)
        obtain ⟨⟨y13, y14⟩, hc12, h0⟩ := bindS h0
        try dsimp only at h0
        refine OpsT.cons (Does.call (d := some 34) (n := 10) (vs := [.string (sx a0 1 (a0.size : Int))]) (by kernel_rfl) en10 (c10 w0 w _ _ hI hT (sx a0 1 (a0.size : Int)) _ hc12) ?_)
        rintro e w ⟨rfl, hI⟩
        refine ⟨_, rfl, ?_⟩
        refine OpsT.pures (r := []) [3, 4, 5, 6, 7] [0, 3, 4, 7] (S' := [(0, .string a0), (3, .bool y2), (4, .string y6), (7, .bool y14)]) (by kernel_rfl) ?_
        refine OpsT.done ?_
        refine Qn.then ?_
        refine CodT.seq ?_
        refine CodT.regionL [0, 1, 2, 3, 4, 5, 6, 7, 8, 9, 10] (by kernel_rfl) ?_
        refine OpsT.pures (r := [4, 5, 6, 7, 8, 9, 10]) [0, 1, 2, 3] [0, 3, 4, 7, 38, 41] (S' := [(0, .string a0), (3, .bool y2), (4, .string y6), (7, .bool y14), (38, .string a0), (41, .int .i64 (wi64 ((a0.size : Int) - 1)))]) (by kernel_rfl) ?_
        obtain ⟨hg15, h0⟩ := guardS h0
        refine OpsT.cons (Does.yi (Yl.sliceStr01 (d := 42) (T := 9) (s := a0) (hi := wi64 ((a0.size : Int) - 1)) (by kernel_rfl) Go.Proofs.Tryd.underlying9 hg15) hI ?_)
        obtain ⟨⟨y17, y18⟩, hc16, h0⟩ := bindS h0
        try dsimp only at h0
        refine OpsT.cons (Does.call (d := some 43) (n := 10) (vs := [.string (sx a0 0 (wi64 ((a0.size : Int) - 1)))]) (by kernel_rfl) en10 (c10 w0 w _ _ hI hT (sx a0 0 (wi64 ((a0.size : Int) - 1))) _ hc16) ?_)
        rintro e w ⟨rfl, hI⟩
        refine ⟨_, rfl, ?_⟩
        refine OpsT.pures (r := []) [6, 7, 8, 9, 10] [0, 3, 4, 7, 9] (S' := [(0, .string a0), (3, .bool y2), (4, .string y6), (7, .bool y14), (9, .bool y18)]) (by kernel_rfl) ?_
        refine OpsT.done ?_
        refine Qn.then ?_
        refine CodT.seq ?_
        refine CodT.regionL [0, 1, 2, 3, 4, 5, 6, 7] (by kernel_rfl) ?_
        refine OpsT.pures (r := [1, 2, 3, 4, 5, 6, 7]) [0] [0, 3, 4, 7, 9, 47] (S' := [(0, .string a0), (3, .bool y2), (4, .string y6), (7, .bool y14), (9, .bool y18), (47, .string a0)]) (by kernel_rfl) ?_
        obtain ⟨hg19, h0⟩ := guardS h0
        refine OpsT.cons (Does.yi (Yl.cat (d := 48) (T := 9) (x := a0) (y := (⟨#[120]⟩ : ByteArray)) (by kernel_rfl) hg19) hI ?_)
        obtain ⟨⟨y21, y22⟩, hc20, h0⟩ := bindS h0
        try dsimp only at h0
        refine OpsT.cons (Does.call (d := some 49) (n := 10) (vs := [.string (a0 ++ (⟨#[120]⟩ : ByteArray))]) (by kernel_rfl) en10 (c10 w0 w _ _ hI hT (a0 ++ (⟨#[120]⟩ : ByteArray)) _ hc20) ?_)
        rintro e w ⟨rfl, hI⟩
        refine ⟨_, rfl, ?_⟩
        refine OpsT.pures (r := []) [3, 4, 5, 6, 7] [0, 3, 4, 7, 9, 11] (S' := [(0, .string a0), (3, .bool y2), (4, .string y6), (7, .bool y14), (9, .bool y18), (11, .bool y22)]) (by kernel_rfl) ?_
        refine OpsT.done ?_
        refine Qn.then ?_
        obtain ⟨r1, h1, h0⟩ := bindS h0
        refine CodT.meet (fun a w => ∃ (x23 : Bool), x23 = r1 ∧ Fr 79 [(2, .bool x23)] a ∧ Inv w0 Z w A) ?_ ?_
        ·
          refine CodT.regionL [0, 1, 2, 3, 4, 5, 6, 7, 8, 9, 10, 11, 12, 13, 14, 15, 16, 17, 18, 19, 20, 21, 22, 23, 24, 25, 26, 27] (by kernel_rfl) ?_
          refine OpsT.pures (r := [2, 3, 4, 5, 6, 7, 8, 9, 10, 11, 12, 13, 14, 15, 16, 17, 18, 19, 20, 21, 22, 23, 24, 25, 26, 27]) [0, 1] [0, 4, 7, 9, 11, 53] (S' := [(0, .string a0), (4, .string y6), (7, .bool y14), (9, .bool y18), (11, .bool y22), (53, .bool y2)]) (by kernel_rfl) ?_
          by_cases hb24 : y2 = true
          · rw [if_pos hb24] at h1
            refine OpsT.keep [0, 4, 7, 9, 11, 53] (S' := [(0, .string a0), (4, .string y6), (7, .bool y14), (9, .bool y18), (11, .bool y22), (53, .bool true)]) (by simp only [hb24]; kernel_rfl) ?_
            refine OpsT.pures (r := [3, 4, 5, 6, 7, 8, 9, 10, 11, 12, 13, 14, 15, 16, 17, 18, 19, 20, 21, 22, 23, 24, 25, 26, 27]) [2] [0, 7, 9, 11, 53, 54] (S' := [(0, .string a0), (7, .bool y14), (9, .bool y18), (11, .bool y22), (53, .bool true), (54, .string y6)]) (by kernel_rfl) ?_
            obtain ⟨y26, hc25, h1⟩ := bindS h1
            try dsimp only at h1
            refine OpsT.cons (Does.call (d := some 55) (n := 9) (vs := [.string y6]) (by kernel_rfl) en9 (c9 w0 w _ _ hI hT y6 _ hc25) ?_)
            rintro e w ⟨rfl, hI⟩
            refine ⟨_, rfl, ?_⟩
            refine OpsT.pures (r := [8, 9, 10, 11, 12, 13, 14, 15, 16, 17, 18, 19, 20, 21, 22, 23, 24, 25, 26, 27]) [4, 5, 6, 7] [0, 7, 9, 11, 59] (S' := [(0, .string a0), (7, .bool y14), (9, .bool y18), (11, .bool y22), (59, .bool (seq y26 a0))]) (by kernel_rfl) ?_
            by_cases hb27 : (seq y26 a0) = true
            · rw [if_pos hb27] at h1
              refine OpsT.keep [0, 7, 9, 11, 59] (S' := [(0, .string a0), (7, .bool y14), (9, .bool y18), (11, .bool y22), (59, .bool true)]) (by simp only [hb27]; kernel_rfl) ?_
              refine OpsT.pures (r := [12, 13, 14, 15, 16, 17, 18, 19, 20, 21, 22, 23, 24, 25, 26, 27]) [8, 9, 10, 11] [0, 9, 11, 63] (S' := [(0, .string a0), (9, .bool y18), (11, .bool y22), (63, .bool (!y14))]) (by kernel_rfl) ?_
              by_cases hb28 : (!y14) = true
              · rw [if_pos hb28] at h1
                refine OpsT.keep [0, 9, 11, 63] (S' := [(0, .string a0), (9, .bool y18), (11, .bool y22), (63, .bool true)]) (by simp only [hb28]; kernel_rfl) ?_
                refine OpsT.pures (r := [15, 16, 17, 18, 19, 20, 21, 22, 23, 24, 25, 26, 27]) [12, 13, 14] [0, 11, 63, 66] (S' := [(0, .string a0), (11, .bool y22), (63, .bool true), (66, .bool (!y18))]) (by kernel_rfl) ?_
                by_cases hb29 : (!y18) = true
                · rw [if_pos hb29] at h1
                  refine OpsT.keep [0, 11, 63, 66] (S' := [(0, .string a0), (11, .bool y22), (63, .bool true), (66, .bool true)]) (by simp only [hb29]; kernel_rfl) ?_
                  refine OpsT.pures (r := []) [15, 16, 17, 18, 19, 20, 21, 22, 23, 24, 25, 26, 27] [2] (S' := [(2, .bool (!y22))]) (by kernel_rfl) ?_
                  refine OpsT.done ?_
                  have e := someS h1
                  subst e
                  exact Qn.thenJ fun a ha => ⟨!y22, rfl, ha.keep [2] (by kernel_rfl), hI⟩
                · rw [if_neg hb29] at h1
                  have hb29 : (!y18) = false := by simpa using hb29
                  refine OpsT.keep [0, 11, 63, 66] (S' := [(0, .string a0), (11, .bool y22), (63, .bool true), (66, .bool false)]) (by simp only [hb29]; kernel_rfl) ?_
                  refine OpsT.pures (r := [19, 20, 21, 22, 23, 24, 25, 26, 27]) [15, 16, 17, 18] [11, 63, 66, 67, 70] (S' := [(11, .bool y22), (63, .bool true), (66, .bool false), (67, .string a0), (70, .int .i64 (wi64 ((a0.size : Int) - 2)))]) (by kernel_rfl) ?_
                  obtain ⟨hg30, h1⟩ := guardS h1
                  refine OpsT.cons (Does.yi (Yl.indexStr (d := 71) (T := 9) (k := .i64) (j := wi64 ((a0.size : Int) - 2)) (s := a0) (by kernel_rfl) Go.Proofs.Tryd.underlying9 hg30.1 hg30.2) hI ?_)
                  refine OpsT.pures (r := [24, 25, 26, 27]) [20, 21, 22, 23] [11, 75] (S' := [(11, .bool y22), (75, .bool ((bt a0 (wi64 ((a0.size : Int) - 2))) == 34))]) (by kernel_rfl) ?_
                  by_cases hb31 : ((bt a0 (wi64 ((a0.size : Int) - 2))) == 34) = true
                  · rw [if_pos hb31] at h1
                    refine OpsT.keep [11, 75] (S' := [(11, .bool y22), (75, .bool true)]) (by simp only [hb31]; kernel_rfl) ?_
                    refine OpsT.pures (r := []) [24, 25, 26, 27] [2] (S' := [(2, .bool (!y22))]) (by kernel_rfl) ?_
                    refine OpsT.done ?_
                    have e := someS h1
                    subst e
                    exact Qn.thenJ fun a ha => ⟨!y22, rfl, ha.keep [2] (by kernel_rfl), hI⟩
                  · rw [if_neg hb31] at h1
                    have hb31 : ((bt a0 (wi64 ((a0.size : Int) - 2))) == 34) = false := by simpa using hb31
                    refine OpsT.keep [11, 75] (S' := [(11, .bool y22), (75, .bool false)]) (by simp only [hb31]; kernel_rfl) ?_
                    refine OpsT.pures (r := []) [24, 25, 26, 27] [2] (S' := [(2, .bool false)]) (by kernel_rfl) ?_
                    refine OpsT.done ?_
                    have e := someS h1
                    subst e
                    exact Qn.thenJ fun a ha => ⟨false, rfl, ha.keep [2] (by kernel_rfl), hI⟩
              · rw [if_neg hb28] at h1
                have hb28 : (!y14) = false := by simpa using hb28
                refine OpsT.keep [0, 9, 11, 63] (S' := [(0, .string a0), (9, .bool y18), (11, .bool y22), (63, .bool false)]) (by simp only [hb28]; kernel_rfl) ?_
                refine OpsT.pures (r := []) [12, 13, 14, 15, 16, 17, 18, 19, 20, 21, 22, 23, 24, 25, 26, 27] [2] (S' := [(2, .bool false)]) (by kernel_rfl) ?_
                refine OpsT.done ?_
                have e := someS h1
                subst e
                exact Qn.thenJ fun a ha => ⟨false, rfl, ha.keep [2] (by kernel_rfl), hI⟩
            · rw [if_neg hb27] at h1
              have hb27 : (seq y26 a0) = false := by simpa using hb27
              refine OpsT.keep [0, 7, 9, 11, 59] (S' := [(0, .string a0), (7, .bool y14), (9, .bool y18), (11, .bool y22), (59, .bool false)]) (by simp only [hb27]; kernel_rfl) ?_
              refine OpsT.pures (r := []) [8, 9, 10, 11, 12, 13, 14, 15, 16, 17, 18, 19, 20, 21, 22, 23, 24, 25, 26, 27] [2] (S' := [(2, .bool false)]) (by kernel_rfl) ?_
              refine OpsT.done ?_
              have e := someS h1
              subst e
              exact Qn.thenJ fun a ha => ⟨false, rfl, ha.keep [2] (by kernel_rfl), hI⟩
          · rw [if_neg hb24] at h1
            have hb24 : y2 = false := by simpa using hb24
            refine OpsT.keep [0, 4, 7, 9, 11, 53] (S' := [(0, .string a0), (4, .string y6), (7, .bool y14), (9, .bool y18), (11, .bool y22), (53, .bool false)]) (by simp only [hb24]; kernel_rfl) ?_
            refine OpsT.pures (r := []) [2, 3, 4, 5, 6, 7, 8, 9, 10, 11, 12, 13, 14, 15, 16, 17, 18, 19, 20, 21, 22, 23, 24, 25, 26, 27] [2] (S' := [(2, .bool false)]) (by kernel_rfl) ?_
            refine OpsT.done ?_
            have e := someS h1
            subst e
            exact Qn.thenJ fun a ha => ⟨false, rfl, ha.keep [2] (by kernel_rfl), hI⟩
        ·
          rintro a w ⟨x23, rfl, ha, hI⟩
          try dsimp only at h0
          refine CodT.of ?_ ha
          refine CodT.ret ?_
          have e := someS h0
          subst e
          refine Qn.keep [2] (S' := [(2, .bool x23)]) (by kernel_rfl) ?_
          exact post_ret (v := .bool x23) (fun a ha => RunRes.run (vs := [.bool x23]) (.tmp (t := 2) (by kernel_rfl) .nil) ha (by kernel_rfl)) ⟨rfl, hI⟩
end Go.Cen
