/- The walk of the law ShaSame, printed by a program of ours. -/
import Derived.Test.YthdoklobbcedcaaW1
set_option linter.unusedVariables false
set_option linter.unusedSimpArgs false
namespace Go.Cen
set_option maxRecDepth 100000 in
set_option maxHeartbeats 4000000 in
/-- cenotaph/cenotaphlaw02.ShaSame -/
theorem c5 (w0 w : World) (Z : Hp) (A : HP) (hI : Inv w0 Z w A) (a0 : ByteArray) (a1 : ByteArray) (r : Bool) (h0 : law02_ShaSame a0 a1 = some r) :
    Calls prog 5 #[.string a0, .string a1] w (fun e w' => e = .returned (.bool r) ∧ Inv w0 Z w' A) := by
  refine calls_intro (args := [.string a0, .string a1]) (fn := Go.Proofs.Try.f5) 48 Go.Proofs.Try.func5 (by rfl) Go.Proofs.Try.ntmps5 (by kernel_rfl) ?_
  unfold law02_ShaSame at h0
  refine CodT.seq ?_
  refine CodT.regionL [0] (by kernel_rfl) ?_
  refine OpsT.pures (r := []) [0] [0, 1] (S' := [(0, .string a0), (1, .string a1)]) (by kernel_rfl) ?_
  refine OpsT.done ?_
  refine Qn.then ?_
  refine CodT.seq ?_
  refine CodT.regionL [0, 1] (by kernel_rfl) ?_
  obtain ⟨y2, hc1, h0⟩ := bindS h0
  try dsimp only at h0
  refine OpsT.cons (Does.call (d := some 8) (n := 14) (vs := []) (by kernel_rfl) en14 (c14 w0 w _ _ hI  _ hc1) ?_)
  rintro e w ⟨rfl, hI⟩
  refine ⟨_, rfl, ?_⟩
  refine OpsT.pures (r := []) [1] [0, 1, 5] (S' := [(0, .string a0), (1, .string a1), (5, .bool y2)]) (by kernel_rfl) ?_
  refine OpsT.done ?_
  refine Qn.then ?_
  refine CodT.seq ?_
  refine CodT.seq ?_
  refine CodT.regionL [0, 1] (by kernel_rfl) ?_
  refine OpsT.pures (r := []) [0, 1] [0, 1, 5, 10] (S' := [(0, .string a0), (1, .string a1), (5, .bool y2), (10, .bool (!y2))]) (by kernel_rfl) ?_
  refine OpsT.done ?_
  refine Qn.then ?_
  by_cases hb3 : (!y2) = true
  · rw [if_pos hb3] at h0
    refine CodT.yes' (b := !y2) (by kernel_rfl) hb3 ?_
    refine CodT.seq ?_
    refine CodT.regionL [0] (by kernel_rfl) ?_
    refine OpsT.pures (r := []) [0] [4] (S' := [(4, .bool false)]) (by kernel_rfl) ?_
    refine OpsT.done ?_
    refine Qn.then ?_
    refine CodT.ret ?_
    refine Qn.ret_then ?_
    have e := someS h0
    subst e
    refine Qn.keep [4] (S' := [(4, .bool false)]) (by kernel_rfl) ?_
    exact post_ret (v := .bool false) (fun a ha => RunRes.run (vs := [.bool false]) (.tmp (t := 4) (by kernel_rfl) .nil) ha (by kernel_rfl)) ⟨rfl, hI⟩
  · rw [if_neg hb3] at h0
    refine CodT.no' (b := !y2) (by kernel_rfl) (by simpa using hb3) ?_
    refine CodT.skip ?_
    refine Qn.then ?_
    refine CodT.seq ?_
    obtain ⟨r1, h1, h0⟩ := bindS h0
    refine CodT.meet (fun a w => ∃ (x4 : Bool), x4 = r1 ∧ Fr 48 [(0, .string a0), (1, .string a1), (5, .bool y2), (18, .bool x4)] a ∧ Inv w0 Z w A) ?_ ?_
    ·
      refine CodT.regionL [0, 1, 2, 3, 4, 5, 6, 7] (by kernel_rfl) ?_
      refine OpsT.pures (r := [4, 5, 6, 7]) [0, 1, 2, 3] [0, 1, 5, 14] (S' := [(0, .string a0), (1, .string a1), (5, .bool y2), (14, .bool (decide ((a0.size : Int) > 300)))]) (by kernel_rfl) ?_
      by_cases hb5 : (decide ((a0.size : Int) > 300)) = true
      · rw [if_pos hb5] at h1
        refine OpsT.keep [0, 1, 5, 14] (S' := [(0, .string a0), (1, .string a1), (5, .bool y2), (14, .bool true)]) (by simp only [hb5]; kernel_rfl) ?_
        refine OpsT.pures (r := []) [4, 5, 6, 7] [0, 1, 5, 18] (S' := [(0, .string a0), (1, .string a1), (5, .bool y2), (18, .bool true)]) (by kernel_rfl) ?_
        refine OpsT.done ?_
        have e := someS h1
        subst e
        exact Qn.thenJ fun a ha => ⟨true, rfl, ha.keep [0, 1, 5, 18] (by kernel_rfl), hI⟩
      · rw [if_neg hb5] at h1
        have hb5 : (decide ((a0.size : Int) > 300)) = false := by simpa using hb5
        refine OpsT.keep [0, 1, 5, 14] (S' := [(0, .string a0), (1, .string a1), (5, .bool y2), (14, .bool false)]) (by simp only [hb5]; kernel_rfl) ?_
        refine OpsT.pures (r := []) [4, 5, 6, 7] [0, 1, 5, 18] (S' := [(0, .string a0), (1, .string a1), (5, .bool y2), (18, .bool (decide ((a1.size : Int) > 300)))]) (by kernel_rfl) ?_
        refine OpsT.done ?_
        have e := someS h1
        subst e
        exact Qn.thenJ fun a ha => ⟨decide ((a1.size : Int) > 300), rfl, ha.keep [0, 1, 5, 18] (by kernel_rfl), hI⟩
    ·
      rintro a w ⟨x4, rfl, ha, hI⟩
      try dsimp only at h0
      refine CodT.of ?_ ha
      by_cases hb6 : x4 = true
      · rw [if_pos hb6] at h0
        refine CodT.yes' (b := x4) (by kernel_rfl) hb6 ?_
        refine CodT.seq ?_
        refine CodT.regionL [0, 1] (by kernel_rfl) ?_
        refine OpsT.pures (r := []) [0, 1] [4] (S' := [(4, .bool y2)]) (by kernel_rfl) ?_
        refine OpsT.done ?_
        refine Qn.then ?_
        refine CodT.ret ?_
        refine Qn.ret_then ?_
        have e := someS h0
        subst e
        refine Qn.keep [4] (S' := [(4, .bool y2)]) (by kernel_rfl) ?_
        exact post_ret (v := .bool y2) (fun a ha => RunRes.run (vs := [.bool y2]) (.tmp (t := 4) (by kernel_rfl) .nil) ha (by kernel_rfl)) ⟨rfl, hI⟩
      · rw [if_neg hb6] at h0
        refine CodT.no' (b := x4) (by kernel_rfl) (by simpa using hb6) ?_
        refine CodT.skip ?_
        refine Qn.then ?_
        refine CodT.seq ?_
        refine CodT.regionL [0, 1, 2, 3] (by kernel_rfl) ?_
        refine OpsT.pures (r := [1, 2, 3]) [0] [0, 1, 5, 20] (S' := [(0, .string a0), (1, .string a1), (5, .bool y2), (20, .string a0)]) (by kernel_rfl) ?_
        obtain ⟨y8, hc7, h0⟩ := bindS h0
        try dsimp only at h0
        refine OpsT.cons (Does.call (d := some 21) (n := 15) (vs := [.string a0]) (by kernel_rfl) en15 (c15 w0 w _ _ hI a0 _ hc7) ?_)
        rintro e w ⟨rfl, hl9, hI⟩
        refine ⟨_, rfl, ?_⟩
        refine OpsT.cons (Does.allocL (d := 6) (T := 23) (cA (Value.int .u8) (List.replicate 32 (0 : Int))) (by kernel_rfl) ty23 hI (by kernel_rfl) ?_)
        intro b10 w hI
        refine OpsT.cons (Does.storeAll (T := 23) (b := b10) (n := 32) (xs := (List.replicate 32 (0 : Int))) (ys := y8) (by kernel_rfl) ty23 hI (fun _ => rfl) (by kernel_rfl) hl9 ?_)
        intro w hI
        refine OpsT.done ?_
        refine Qn.then ?_
        refine CodT.seq ?_
        refine CodT.regionL [0, 1, 2, 3] (by kernel_rfl) ?_
        refine OpsT.pures (r := [1, 2, 3]) [0] [0, 1, 5, 6, 22] (S' := [(0, .string a0), (1, .string a1), (5, .bool y2), (6, .pointer (some ⟨b10, 0, none⟩)), (22, .string a1)]) (by kernel_rfl) ?_
        obtain ⟨y12, hc11, h0⟩ := bindS h0
        try dsimp only at h0
        refine OpsT.cons (Does.call (d := some 23) (n := 15) (vs := [.string a1]) (by kernel_rfl) en15 (c15 w0 w _ _ hI a1 _ hc11) ?_)
        rintro e w ⟨rfl, hl13, hI⟩
        refine ⟨_, rfl, ?_⟩
        refine OpsT.cons (Does.allocL (d := 7) (T := 23) (cA (Value.int .u8) (List.replicate 32 (0 : Int))) (by kernel_rfl) ty23 hI (by kernel_rfl) ?_)
        intro b14 w hI
        refine OpsT.cons (Does.storeAll (T := 23) (b := b14) (n := 32) (xs := (List.replicate 32 (0 : Int))) (ys := y12) (by kernel_rfl) ty23 hI (fun _ => rfl) (by kernel_rfl) hl13 ?_)
        intro w hI
        refine OpsT.done ?_
        refine Qn.then ?_
        obtain ⟨r1, h1, h0⟩ := bindS h0
        refine CodT.meet (fun a w => ∃ (x15 : Bool), x15 = r1 ∧ Fr 48 [(4, .bool x15)] a ∧ Inv w0 Z w A) ?_ ?_
        ·
          refine CodT.regionL [0, 1, 2, 3, 4, 5, 6, 7, 8, 9, 10, 11, 12, 13, 14, 15, 16, 17, 18, 19, 20, 21, 22, 23, 24] (by kernel_rfl) ?_
          refine OpsT.pures (r := [2, 3, 4, 5, 6, 7, 8, 9, 10, 11, 12, 13, 14, 15, 16, 17, 18, 19, 20, 21, 22, 23, 24]) [0, 1] [0, 1, 6, 7, 25] (S' := [(0, .string a0), (1, .string a1), (6, .pointer (some ⟨b10, 0, none⟩)), (7, .pointer (some ⟨b14, 0, none⟩)), (25, .bool y2)]) (by kernel_rfl) ?_
          by_cases hb16 : y2 = true
          · rw [if_pos hb16] at h1
            refine OpsT.keep [0, 1, 6, 7, 25] (S' := [(0, .string a0), (1, .string a1), (6, .pointer (some ⟨b10, 0, none⟩)), (7, .pointer (some ⟨b14, 0, none⟩)), (25, .bool true)]) (by simp only [hb16]; kernel_rfl) ?_
            refine OpsT.pures (r := [4, 5, 6, 7, 8, 9, 10, 11, 12, 13, 14, 15, 16, 17, 18, 19, 20, 21, 22, 23, 24]) [2, 3] [0, 1, 6, 7, 25, 26, 27] (S' := [(0, .string a0), (1, .string a1), (6, .pointer (some ⟨b10, 0, none⟩)), (7, .pointer (some ⟨b14, 0, none⟩)), (25, .bool true), (26, .string a0), (27, .string a1)]) (by kernel_rfl) ?_
            obtain ⟨y18, hc17, h1⟩ := bindS h1
            try dsimp only at h1
            refine OpsT.cons (Does.call (d := some 28) (n := 23) (vs := [.string a0, .string a1]) (by kernel_rfl) en23 (c23 w0 w _ _ hI a0 a1 _ hc17) ?_)
            rintro e w ⟨rfl, hI⟩
            refine ⟨_, rfl, ?_⟩
            refine OpsT.pures (r := [9, 10, 11, 12, 13, 14, 15, 16, 17, 18, 19, 20, 21, 22, 23, 24]) [5, 6, 7, 8] [0, 1, 6, 7, 25, 28, 32] (S' := [(0, .string a0), (1, .string a1), (6, .pointer (some ⟨b10, 0, none⟩)), (7, .pointer (some ⟨b14, 0, none⟩)), (25, .bool true), (28, .bool y18), (32, .bool (!(seq a0 a1)))]) (by kernel_rfl) ?_
            by_cases hb19 : (!(seq a0 a1)) = true
            · rw [if_pos hb19] at h1
              refine OpsT.keep [0, 1, 6, 7, 25, 28, 32] (S' := [(0, .string a0), (1, .string a1), (6, .pointer (some ⟨b10, 0, none⟩)), (7, .pointer (some ⟨b14, 0, none⟩)), (25, .bool true), (28, .bool y18), (32, .bool true)]) (by simp only [hb19]; kernel_rfl) ?_
              refine OpsT.cons (Does.yi (Yl.load (d := 33) (T := 23) (v := .agg (cA (Value.int .u8) y8).toArray) (by kernel_rfl) (ldBN ty23 (l := cA (Value.int .u8) y8) (o := 0) (cs := cA (Value.int .u8) y8) (pick2 _ _ _) ((cA_length _ _).trans hl9) (whole _ _ ((cA_length _ _).trans hl9)))) hI ?_)
              refine OpsT.cons (Does.yi (Yl.load (d := 34) (T := 23) (v := .agg (cA (Value.int .u8) y12).toArray) (by kernel_rfl) (ldBN ty23 (l := cA (Value.int .u8) y12) (o := 0) (cs := cA (Value.int .u8) y12) (ent_refl _) ((cA_length _ _).trans hl13) (whole _ _ ((cA_length _ _).trans hl13)))) hI ?_)
              refine OpsT.cons (Does.yi (Yl.eqlA (k := .u8) (d := 35) (T := 23) (xs := y8) (ys := y12) (by kernel_rfl) Go.Proofs.Try.underlying23 (by kernel_rfl) Go.Proofs.Try.underlying5 ty5 hl9 hl13) hI ?_)
              refine OpsT.pures (r := [16, 17, 18, 19, 20, 21, 22, 23, 24]) [12, 13, 14, 15] [0, 1, 39] (S' := [(0, .string a0), (1, .string a1), (39, .bool (y18 == (eqA y8 y12)))]) (by kernel_rfl) ?_
              by_cases hb20 : (y18 == (eqA y8 y12)) = true
              · rw [if_pos hb20] at h1
                refine OpsT.keep [0, 1, 39] (S' := [(0, .string a0), (1, .string a1), (39, .bool true)]) (by simp only [hb20]; kernel_rfl) ?_
                refine OpsT.pures (r := [18, 19, 20, 21, 22, 23, 24]) [16, 17] [0, 1, 39, 40, 41] (S' := [(0, .string a0), (1, .string a1), (39, .bool true), (40, .string a0), (41, .string a1)]) (by kernel_rfl) ?_
                obtain ⟨y22, hc21, h1⟩ := bindS h1
                try dsimp only at h1
                refine OpsT.cons (Does.call (d := some 42) (n := 23) (vs := [.string a0, .string a1]) (by kernel_rfl) en23 (c23 w0 w _ _ hI a0 a1 _ hc21) ?_)
                rintro e w ⟨rfl, hI⟩
                refine ⟨_, rfl, ?_⟩
                refine OpsT.pures (r := [21, 22, 23, 24]) [19, 20] [39, 42, 43, 44] (S' := [(39, .bool true), (42, .bool y22), (43, .string a1), (44, .string a0)]) (by kernel_rfl) ?_
                obtain ⟨y24, hc23, h1⟩ := bindS h1
                try dsimp only at h1
                refine OpsT.cons (Does.call (d := some 45) (n := 23) (vs := [.string a1, .string a0]) (by kernel_rfl) en23 (c23 w0 w _ _ hI a1 a0 _ hc23) ?_)
                rintro e w ⟨rfl, hI⟩
                refine ⟨_, rfl, ?_⟩
                refine OpsT.pures (r := []) [22, 23, 24] [4] (S' := [(4, .bool (y22 == y24))]) (by kernel_rfl) ?_
                refine OpsT.done ?_
                have hI := hI.drop
                have hI := hI.drop
                have e := someS h1
                subst e
                exact Qn.thenJ fun a ha => ⟨y22 == y24, rfl, ha.keep [4] (by kernel_rfl), hI⟩
              · rw [if_neg hb20] at h1
                have hb20 : (y18 == (eqA y8 y12)) = false := by simpa using hb20
                refine OpsT.keep [0, 1, 39] (S' := [(0, .string a0), (1, .string a1), (39, .bool false)]) (by simp only [hb20]; kernel_rfl) ?_
                refine OpsT.pures (r := []) [16, 17, 18, 19, 20, 21, 22, 23, 24] [4] (S' := [(4, .bool false)]) (by kernel_rfl) ?_
                refine OpsT.done ?_
                have hI := hI.drop
                have hI := hI.drop
                have e := someS h1
                subst e
                exact Qn.thenJ fun a ha => ⟨false, rfl, ha.keep [4] (by kernel_rfl), hI⟩
            · rw [if_neg hb19] at h1
              have hb19 : (!(seq a0 a1)) = false := by simpa using hb19
              refine OpsT.keep [0, 1, 6, 7, 25, 28, 32] (S' := [(0, .string a0), (1, .string a1), (6, .pointer (some ⟨b10, 0, none⟩)), (7, .pointer (some ⟨b14, 0, none⟩)), (25, .bool true), (28, .bool y18), (32, .bool false)]) (by simp only [hb19]; kernel_rfl) ?_
              refine OpsT.pures (r := [16, 17, 18, 19, 20, 21, 22, 23, 24]) [9, 10, 11, 12, 13, 14, 15] [0, 1, 39] (S' := [(0, .string a0), (1, .string a1), (39, .bool (y18 == false))]) (by kernel_rfl) ?_
              by_cases hb25 : (y18 == false) = true
              · rw [if_pos hb25] at h1
                refine OpsT.keep [0, 1, 39] (S' := [(0, .string a0), (1, .string a1), (39, .bool true)]) (by simp only [hb25]; kernel_rfl) ?_
                refine OpsT.pures (r := [18, 19, 20, 21, 22, 23, 24]) [16, 17] [0, 1, 39, 40, 41] (S' := [(0, .string a0), (1, .string a1), (39, .bool true), (40, .string a0), (41, .string a1)]) (by kernel_rfl) ?_
                obtain ⟨y27, hc26, h1⟩ := bindS h1
                try dsimp only at h1
                refine OpsT.cons (Does.call (d := some 42) (n := 23) (vs := [.string a0, .string a1]) (by kernel_rfl) en23 (c23 w0 w _ _ hI a0 a1 _ hc26) ?_)
                rintro e w ⟨rfl, hI⟩
                refine ⟨_, rfl, ?_⟩
                refine OpsT.pures (r := [21, 22, 23, 24]) [19, 20] [39, 42, 43, 44] (S' := [(39, .bool true), (42, .bool y27), (43, .string a1), (44, .string a0)]) (by kernel_rfl) ?_
                obtain ⟨y29, hc28, h1⟩ := bindS h1
                try dsimp only at h1
                refine OpsT.cons (Does.call (d := some 45) (n := 23) (vs := [.string a1, .string a0]) (by kernel_rfl) en23 (c23 w0 w _ _ hI a1 a0 _ hc28) ?_)
                rintro e w ⟨rfl, hI⟩
                refine ⟨_, rfl, ?_⟩
                refine OpsT.pures (r := []) [22, 23, 24] [4] (S' := [(4, .bool (y27 == y29))]) (by kernel_rfl) ?_
                refine OpsT.done ?_
                have hI := hI.drop
                have hI := hI.drop
                have e := someS h1
                subst e
                exact Qn.thenJ fun a ha => ⟨y27 == y29, rfl, ha.keep [4] (by kernel_rfl), hI⟩
              · rw [if_neg hb25] at h1
                have hb25 : (y18 == false) = false := by simpa using hb25
                refine OpsT.keep [0, 1, 39] (S' := [(0, .string a0), (1, .string a1), (39, .bool false)]) (by simp only [hb25]; kernel_rfl) ?_
                refine OpsT.pures (r := []) [16, 17, 18, 19, 20, 21, 22, 23, 24] [4] (S' := [(4, .bool false)]) (by kernel_rfl) ?_
                refine OpsT.done ?_
                have hI := hI.drop
                have hI := hI.drop
                have e := someS h1
                subst e
                exact Qn.thenJ fun a ha => ⟨false, rfl, ha.keep [4] (by kernel_rfl), hI⟩
          · rw [if_neg hb16] at h1
            have hb16 : y2 = false := by simpa using hb16
            refine OpsT.keep [0, 1, 6, 7, 25] (S' := [(0, .string a0), (1, .string a1), (6, .pointer (some ⟨b10, 0, none⟩)), (7, .pointer (some ⟨b14, 0, none⟩)), (25, .bool false)]) (by simp only [hb16]; kernel_rfl) ?_
            refine OpsT.pures (r := []) [2, 3, 4, 5, 6, 7, 8, 9, 10, 11, 12, 13, 14, 15, 16, 17, 18, 19, 20, 21, 22, 23, 24] [4] (S' := [(4, .bool false)]) (by kernel_rfl) ?_
            refine OpsT.done ?_
            have hI := hI.drop
            have hI := hI.drop
            have e := someS h1
            subst e
            exact Qn.thenJ fun a ha => ⟨false, rfl, ha.keep [4] (by kernel_rfl), hI⟩
        ·
          rintro a w ⟨x15, rfl, ha, hI⟩
          try dsimp only at h0
          refine CodT.of ?_ ha
          refine CodT.ret ?_
          have e := someS h0
          subst e
          refine Qn.keep [4] (S' := [(4, .bool x15)]) (by kernel_rfl) ?_
          exact post_ret (v := .bool x15) (fun a ha => RunRes.run (vs := [.bool x15]) (.tmp (t := 4) (by kernel_rfl) .nil) ha (by kernel_rfl)) ⟨rfl, hI⟩
end Go.Cen
