/- The walk of the law ShaOf, printed by a program of ours. -/
import Derived.Test.YthdoklobbcedcaaW1
set_option linter.unusedVariables false
set_option linter.unusedSimpArgs false
namespace Go.Cen
set_option maxRecDepth 100000 in
set_option maxHeartbeats 4000000 in
/-- cenotaph/cenotaphlaw02.ShaOf -/
theorem c3 (w0 w : World) (Z : Hp) (A : HP) (hI : Inv w0 Z w A) (a0 : ByteArray) (a1 : (List Int)) (hl_a1 : a1.length = 32) (r : Bool) (h0 : law02_ShaOf a0 a1 = some r) :
    Calls prog 3 #[.string a0, .agg (cA (Value.int .u8) a1).toArray] w (fun e w' => e = .returned (.bool r) ∧ Inv w0 Z w' A) := by
  refine calls_intro (args := [.string a0, .agg (cA (Value.int .u8) a1).toArray]) (fn := Go.Proofs.Try.f3) 44 Go.Proofs.Try.func3 (by rfl) Go.Proofs.Try.ntmps3 (by kernel_rfl) ?_
  unfold law02_ShaOf at h0
  refine CodT.seq ?_
  refine CodT.regionL [0, 1] (by kernel_rfl) ?_
  refine OpsT.cons (Does.boxL (d := 3) (T := 23) (v := .agg (cA (Value.int .u8) a1).toArray) (cA (Value.int .u8) a1) (by kernel_rfl) hI (by kernel_rfl) ?_)
  intro b1 w hI
  refine OpsT.pures (r := []) [1] [0, 3] (S' := [(0, .string a0), (3, .pointer (some ⟨b1, 0, none⟩))]) (by kernel_rfl) ?_
  refine OpsT.done ?_
  refine Qn.then ?_
  refine CodT.seq ?_
  refine CodT.regionL [0, 1] (by kernel_rfl) ?_
  obtain ⟨y3, hc2, h0⟩ := bindS h0
  try dsimp only at h0
  refine OpsT.cons (Does.call (d := some 6) (n := 14) (vs := []) (by kernel_rfl) en14 (c14 w0 w _ _ hI  _ hc2) ?_)
  rintro e w ⟨rfl, hI⟩
  refine ⟨_, rfl, ?_⟩
  refine OpsT.pures (r := []) [1] [0, 3, 5] (S' := [(0, .string a0), (3, .pointer (some ⟨b1, 0, none⟩)), (5, .bool y3)]) (by kernel_rfl) ?_
  refine OpsT.done ?_
  refine Qn.then ?_
  refine CodT.seq ?_
  refine CodT.seq ?_
  refine CodT.regionL [0, 1] (by kernel_rfl) ?_
  refine OpsT.pures (r := []) [0, 1] [0, 3, 5, 8] (S' := [(0, .string a0), (3, .pointer (some ⟨b1, 0, none⟩)), (5, .bool y3), (8, .bool (!y3))]) (by kernel_rfl) ?_
  refine OpsT.done ?_
  refine Qn.then ?_
  by_cases hb4 : (!y3) = true
  · rw [if_pos hb4] at h0
    refine CodT.yes' (b := !y3) (by kernel_rfl) hb4 ?_
    refine CodT.seq ?_
    refine CodT.regionL [0] (by kernel_rfl) ?_
    refine OpsT.pures (r := []) [0] [4] (S' := [(4, .bool false)]) (by kernel_rfl) ?_
    refine OpsT.done ?_
    refine Qn.then ?_
    refine CodT.ret ?_
    refine Qn.ret_then ?_
    have hI := hI.drop
    have e := someS h0
    subst e
    refine Qn.keep [4] (S' := [(4, .bool false)]) (by kernel_rfl) ?_
    exact post_ret (v := .bool false) (fun a ha => RunRes.run (vs := [.bool false]) (.tmp (t := 4) (by kernel_rfl) .nil) ha (by kernel_rfl)) ⟨rfl, hI⟩
  · rw [if_neg hb4] at h0
    refine CodT.no' (b := !y3) (by kernel_rfl) (by simpa using hb4) ?_
    refine CodT.skip ?_
    refine Qn.then ?_
    refine CodT.seq ?_
    refine CodT.seq ?_
    refine CodT.regionL [0, 1, 2] (by kernel_rfl) ?_
    refine OpsT.pures (r := []) [0, 1, 2] [0, 3, 5, 11] (S' := [(0, .string a0), (3, .pointer (some ⟨b1, 0, none⟩)), (5, .bool y3), (11, .bool (decide ((a0.size : Int) > 300)))]) (by kernel_rfl) ?_
    refine OpsT.done ?_
    refine Qn.then ?_
    by_cases hb5 : (decide ((a0.size : Int) > 300)) = true
    · rw [if_pos hb5] at h0
      refine CodT.yes' (b := decide ((a0.size : Int) > 300)) (by kernel_rfl) hb5 ?_
      refine CodT.seq ?_
      refine CodT.regionL [0, 1] (by kernel_rfl) ?_
      refine OpsT.pures (r := []) [0, 1] [4] (S' := [(4, .bool y3)]) (by kernel_rfl) ?_
      refine OpsT.done ?_
      refine Qn.then ?_
      refine CodT.ret ?_
      refine Qn.ret_then ?_
      have hI := hI.drop
      have e := someS h0
      subst e
      refine Qn.keep [4] (S' := [(4, .bool y3)]) (by kernel_rfl) ?_
      exact post_ret (v := .bool y3) (fun a ha => RunRes.run (vs := [.bool y3]) (.tmp (t := 4) (by kernel_rfl) .nil) ha (by kernel_rfl)) ⟨rfl, hI⟩
    · rw [if_neg hb5] at h0
      refine CodT.no' (b := decide ((a0.size : Int) > 300)) (by kernel_rfl) (by simpa using hb5) ?_
      refine CodT.skip ?_
      refine Qn.then ?_
      obtain ⟨r1, h1, h0⟩ := bindS h0
      refine CodT.meet (fun a w => ∃ (x6 : Bool), x6 = r1 ∧ Fr 44 [(4, .bool x6)] a ∧ Inv w0 Z w A) ?_ ?_
      ·
        refine CodT.drawI (n := 32) [] (by kernel_rfl) (by kernel_rfl) hI ?_
        intro w hI
        refine GmT.p 0 13 (.bool y3) 2 (by kernel_rfl) (by kernel_rfl) hI (by kernel_rfl) ?_
        refine GmT.p 1 14 (.bool y3) 2 (by kernel_rfl) (by kernel_rfl) hI (by kernel_rfl) ?_
        by_cases hb7 : y3 = true
        · rw [if_pos hb7] at h1
          refine GmT.keep [0, 3, 14] (S' := [(0, .string a0), (3, .pointer (some ⟨b1, 0, none⟩)), (14, .bool true)]) (by simp only [hb7]; kernel_rfl) ?_
          refine GmT.p 2 15 (.string a0) 2 (by kernel_rfl) (by kernel_rfl) hI (by kernel_rfl) ?_
          refine GmT.p 4 17 (.string a0) 2 (by kernel_rfl) (by kernel_rfl) hI (by kernel_rfl) ?_
          obtain ⟨y9, hc8, h1⟩ := bindS h1
          try dsimp only at h1
          refine GmT.o (i := 3) (by kernel_rfl) (Does.call (d := some 16) (n := 15) (vs := [.string a0]) (by kernel_rfl) en15 (c15 w0 w _ _ hI a0 _ hc8) ?_)
          rintro e w ⟨rfl, hl10, hI⟩
          refine ⟨_, rfl, ?_⟩
          refine ⟨fun _ => hI, ?_⟩
          obtain ⟨y12, hc11, h1⟩ := bindS h1
          try dsimp only at h1
          refine GmT.o (i := 5) (by kernel_rfl) (Does.call (d := some 18) (n := 16) (vs := [.string a0]) (by kernel_rfl) en16 (c16 w0 w _ _ hI a0 _ hc11) ?_)
          rintro e w ⟨rfl, hl13, hI⟩
          refine ⟨_, rfl, ?_⟩
          refine ⟨fun _ => hI, ?_⟩
          refine GmT.r (i := 6) 2 (by kernel_rfl) (by kernel_rfl) (Yl.eqlA (k := .u8) (d := 19) (T := 23) (xs := y9) (ys := y12) (by kernel_rfl) Go.Proofs.Try.underlying23 (by kernel_rfl) Go.Proofs.Try.underlying5 ty5 hl10 hl13) hI ?_
          refine GmT.p 7 20 (.bool (eqA y9 y12)) 2 (by kernel_rfl) (by kernel_rfl) hI (by kernel_rfl) ?_
          refine GmT.p 8 21 (.bool (eqA y9 y12)) 2 (by kernel_rfl) (by kernel_rfl) hI (by kernel_rfl) ?_
          by_cases hb14 : (eqA y9 y12) = true
          · rw [if_pos hb14] at h1
            refine GmT.keep [0, 3, 21] (S' := [(0, .string a0), (3, .pointer (some ⟨b1, 0, none⟩)), (21, .bool true)]) (by simp only [hb14]; kernel_rfl) ?_
            refine GmT.p 9 22 (.string a0) 2 (by kernel_rfl) (by kernel_rfl) hI (by kernel_rfl) ?_
            refine GmT.p 11 24 (.string a0) 2 (by kernel_rfl) (by kernel_rfl) hI (by kernel_rfl) ?_
            obtain ⟨y16, hc15, h1⟩ := bindS h1
            try dsimp only at h1
            refine GmT.o (i := 10) (by kernel_rfl) (Does.call (d := some 23) (n := 17) (vs := [.string a0]) (by kernel_rfl) en17 (c17 w0 w _ _ hI a0 _ hc15) ?_)
            rintro e w ⟨rfl, hI⟩
            refine ⟨_, rfl, ?_⟩
            refine ⟨fun _ => hI, ?_⟩
            obtain ⟨y18, hc17, h1⟩ := bindS h1
            try dsimp only at h1
            refine GmT.o (i := 12) (by kernel_rfl) (Does.call (d := some 25) (n := 18) (vs := [.string a0]) (by kernel_rfl) en18 (c18 w0 w _ _ hI a0 _ hc17) ?_)
            rintro e w ⟨rfl, hI⟩
            refine ⟨_, rfl, ?_⟩
            refine ⟨fun _ => hI, ?_⟩
            refine GmT.p 13 26 (.bool (seq y16 y18)) 2 (by kernel_rfl) (by kernel_rfl) hI (by kernel_rfl) ?_
            refine GmT.p 14 27 (.bool (seq y16 y18)) 2 (by kernel_rfl) (by kernel_rfl) hI (by kernel_rfl) ?_
            refine GmT.p 15 28 (.bool (seq y16 y18)) 2 (by kernel_rfl) (by kernel_rfl) hI (by kernel_rfl) ?_
            by_cases hb19 : (seq y16 y18) = true
            · rw [if_pos hb19] at h1
              refine GmT.keep [0, 3, 28] (S' := [(0, .string a0), (3, .pointer (some ⟨b1, 0, none⟩)), (28, .bool true)]) (by simp only [hb19]; kernel_rfl) ?_
              refine GmT.r (i := 16) 2 (by kernel_rfl) (by kernel_rfl) (Yl.load (d := 29) (T := 23) (v := .agg (cA (Value.int .u8) a1).toArray) (by kernel_rfl) (ldBN ty23 (l := cA (Value.int .u8) a1) (o := 0) (cs := cA (Value.int .u8) a1) (ent_refl _) ((cA_length _ _).trans hl_a1) (whole _ _ ((cA_length _ _).trans hl_a1)))) hI ?_
              refine GmT.r (i := 18) 2 (by kernel_rfl) (by kernel_rfl) (Yl.load (d := 31) (T := 23) (v := .agg (cA (Value.int .u8) a1).toArray) (by kernel_rfl) (ldBN ty23 (l := cA (Value.int .u8) a1) (o := 0) (cs := cA (Value.int .u8) a1) (ent_refl _) ((cA_length _ _).trans hl_a1) (whole _ _ ((cA_length _ _).trans hl_a1)))) hI ?_
              obtain ⟨y21, hc20, h1⟩ := bindS h1
              try dsimp only at h1
              refine GmT.o (i := 17) (by kernel_rfl) (Does.call (d := some 30) (n := 19) (vs := [.agg (cA (Value.int .u8) a1).toArray]) (by kernel_rfl) en19 (c19 w0 w _ _ hI a1 hl_a1 _ hc20) ?_)
              rintro e w ⟨rfl, hI⟩
              refine ⟨_, rfl, ?_⟩
              refine ⟨fun _ => hI, ?_⟩
              obtain ⟨y23, hc22, h1⟩ := bindS h1
              try dsimp only at h1
              refine GmT.o (i := 19) (by kernel_rfl) (Does.call (d := some 32) (n := 20) (vs := [.agg (cA (Value.int .u8) a1).toArray]) (by kernel_rfl) en20 (c20 w0 w _ _ hI a1 hl_a1 _ hc22) ?_)
              rintro e w ⟨rfl, hI⟩
              refine ⟨_, rfl, ?_⟩
              refine ⟨fun _ => hI, ?_⟩
              refine GmT.p 20 33 (.bool (seq y21 y23)) 2 (by kernel_rfl) (by kernel_rfl) hI (by kernel_rfl) ?_
              refine GmT.p 21 34 (.bool (seq y21 y23)) 2 (by kernel_rfl) (by kernel_rfl) hI (by kernel_rfl) ?_
              refine GmT.p 22 35 (.bool (seq y21 y23)) 2 (by kernel_rfl) (by kernel_rfl) hI (by kernel_rfl) ?_
              by_cases hb24 : (seq y21 y23) = true
              · rw [if_pos hb24] at h1
                refine GmT.keep [0, 3, 35] (S' := [(0, .string a0), (3, .pointer (some ⟨b1, 0, none⟩)), (35, .bool true)]) (by simp only [hb24]; kernel_rfl) ?_
                refine GmT.p 24 37 (.string a0) 2 (by kernel_rfl) (by kernel_rfl) hI (by kernel_rfl) ?_
                refine GmT.p 27 40 (.string a0) 2 (by kernel_rfl) (by kernel_rfl) hI (by kernel_rfl) ?_
                refine GmT.r (i := 23) 2 (by kernel_rfl) (by kernel_rfl) (Yl.load (d := 36) (T := 23) (v := .agg (cA (Value.int .u8) a1).toArray) (by kernel_rfl) (ldBN ty23 (l := cA (Value.int .u8) a1) (o := 0) (cs := cA (Value.int .u8) a1) (ent_refl _) ((cA_length _ _).trans hl_a1) (whole _ _ ((cA_length _ _).trans hl_a1)))) hI ?_
                refine GmT.r (i := 26) 2 (by kernel_rfl) (by kernel_rfl) (Yl.load (d := 39) (T := 23) (v := .agg (cA (Value.int .u8) a1).toArray) (by kernel_rfl) (ldBN ty23 (l := cA (Value.int .u8) a1) (o := 0) (cs := cA (Value.int .u8) a1) (ent_refl _) ((cA_length _ _).trans hl_a1) (whole _ _ ((cA_length _ _).trans hl_a1)))) hI ?_
                obtain ⟨y26, hc25, h1⟩ := bindS h1
                try dsimp only at h1
                refine GmT.o (i := 25) (by kernel_rfl) (Does.call (d := some 38) (n := 21) (vs := [.agg (cA (Value.int .u8) a1).toArray, .string a0]) (by kernel_rfl) en21 (c21 w0 w _ _ hI a1 hl_a1 a0 _ hc25) ?_)
                rintro e w ⟨rfl, hl27, hI⟩
                refine ⟨_, rfl, ?_⟩
                refine ⟨fun _ => hI, ?_⟩
                obtain ⟨y29, hc28, h1⟩ := bindS h1
                try dsimp only at h1
                refine GmT.o (i := 28) (by kernel_rfl) (Does.call (d := some 41) (n := 22) (vs := [.agg (cA (Value.int .u8) a1).toArray, .string a0]) (by kernel_rfl) en22 (c22 w0 w _ _ hI a1 hl_a1 a0 _ hc28) ?_)
                rintro e w ⟨rfl, hl30, hI⟩
                refine ⟨_, rfl, ?_⟩
                refine ⟨fun _ => hI, ?_⟩
                refine GmT.r (i := 29) 2 (by kernel_rfl) (by kernel_rfl) (Yl.eqlA (k := .u8) (d := 42) (T := 23) (xs := y26) (ys := y29) (by kernel_rfl) Go.Proofs.Try.underlying23 (by kernel_rfl) Go.Proofs.Try.underlying5 ty5 hl27 hl30) hI ?_
                refine GmT.p 30 43 (.bool (eqA y26 y29)) 2 (by kernel_rfl) (by kernel_rfl) hI (by kernel_rfl) ?_
                refine GmT.p 31 4 (.bool (eqA y26 y29)) 2 (by kernel_rfl) (by kernel_rfl) hI (by kernel_rfl) ?_
                refine GmT.done (by kernel_rfl) ?_
                have hI := hI.drop
                have e := someS h1
                subst e
                exact Qn.thenJ fun a ha => ⟨eqA y26 y29, rfl, ha.keep [4] (by kernel_rfl), hI⟩
              · rw [if_neg hb24] at h1
                have hb24 : (seq y21 y23) = false := by simpa using hb24
                refine GmT.keep [0, 3, 35] (S' := [(0, .string a0), (3, .pointer (some ⟨b1, 0, none⟩)), (35, .bool false)]) (by simp only [hb24]; kernel_rfl) ?_
                refine GmT.p 23 36 (undef) 2 (by kernel_rfl) (by kernel_rfl) hI (by kernel_rfl) ?_
                refine GmT.p 24 37 (undef) 2 (by kernel_rfl) (by kernel_rfl) hI (by kernel_rfl) ?_
                refine GmT.p 25 38 (undef) 2 (by kernel_rfl) (by kernel_rfl) hI (by kernel_rfl) ?_
                refine GmT.p 26 39 (undef) 2 (by kernel_rfl) (by kernel_rfl) hI (by kernel_rfl) ?_
                refine GmT.p 27 40 (undef) 2 (by kernel_rfl) (by kernel_rfl) hI (by kernel_rfl) ?_
                refine GmT.p 28 41 (undef) 2 (by kernel_rfl) (by kernel_rfl) hI (by kernel_rfl) ?_
                refine GmT.p 29 42 (undef) 2 (by kernel_rfl) (by kernel_rfl) hI (by kernel_rfl) ?_
                refine GmT.p 30 43 (.bool false) 2 (by kernel_rfl) (by kernel_rfl) hI (by kernel_rfl) ?_
                refine GmT.p 31 4 (.bool false) 2 (by kernel_rfl) (by kernel_rfl) hI (by kernel_rfl) ?_
                refine GmT.done (by kernel_rfl) ?_
                have hI := hI.drop
                have e := someS h1
                subst e
                exact Qn.thenJ fun a ha => ⟨false, rfl, ha.keep [4] (by kernel_rfl), hI⟩
            · rw [if_neg hb19] at h1
              have hb19 : (seq y16 y18) = false := by simpa using hb19
              refine GmT.keep [0, 3, 28] (S' := [(0, .string a0), (3, .pointer (some ⟨b1, 0, none⟩)), (28, .bool false)]) (by simp only [hb19]; kernel_rfl) ?_
              refine GmT.p 16 29 (undef) 2 (by kernel_rfl) (by kernel_rfl) hI (by kernel_rfl) ?_
              refine GmT.p 17 30 (undef) 2 (by kernel_rfl) (by kernel_rfl) hI (by kernel_rfl) ?_
              refine GmT.p 18 31 (undef) 2 (by kernel_rfl) (by kernel_rfl) hI (by kernel_rfl) ?_
              refine GmT.p 19 32 (undef) 2 (by kernel_rfl) (by kernel_rfl) hI (by kernel_rfl) ?_
              refine GmT.p 20 33 (undef) 2 (by kernel_rfl) (by kernel_rfl) hI (by kernel_rfl) ?_
              refine GmT.p 21 34 (.bool false) 2 (by kernel_rfl) (by kernel_rfl) hI (by kernel_rfl) ?_
              refine GmT.p 22 35 (.bool false) 2 (by kernel_rfl) (by kernel_rfl) hI (by kernel_rfl) ?_
              refine GmT.p 23 36 (undef) 2 (by kernel_rfl) (by kernel_rfl) hI (by kernel_rfl) ?_
              refine GmT.p 24 37 (undef) 2 (by kernel_rfl) (by kernel_rfl) hI (by kernel_rfl) ?_
              refine GmT.p 25 38 (undef) 2 (by kernel_rfl) (by kernel_rfl) hI (by kernel_rfl) ?_
              refine GmT.p 26 39 (undef) 2 (by kernel_rfl) (by kernel_rfl) hI (by kernel_rfl) ?_
              refine GmT.p 27 40 (undef) 2 (by kernel_rfl) (by kernel_rfl) hI (by kernel_rfl) ?_
              refine GmT.p 28 41 (undef) 2 (by kernel_rfl) (by kernel_rfl) hI (by kernel_rfl) ?_
              refine GmT.p 29 42 (undef) 2 (by kernel_rfl) (by kernel_rfl) hI (by kernel_rfl) ?_
              refine GmT.p 30 43 (.bool false) 2 (by kernel_rfl) (by kernel_rfl) hI (by kernel_rfl) ?_
              refine GmT.p 31 4 (.bool false) 2 (by kernel_rfl) (by kernel_rfl) hI (by kernel_rfl) ?_
              refine GmT.done (by kernel_rfl) ?_
              have hI := hI.drop
              have e := someS h1
              subst e
              exact Qn.thenJ fun a ha => ⟨false, rfl, ha.keep [4] (by kernel_rfl), hI⟩
          · rw [if_neg hb14] at h1
            have hb14 : (eqA y9 y12) = false := by simpa using hb14
            refine GmT.keep [0, 3, 21] (S' := [(0, .string a0), (3, .pointer (some ⟨b1, 0, none⟩)), (21, .bool false)]) (by simp only [hb14]; kernel_rfl) ?_
            refine GmT.p 9 22 (undef) 2 (by kernel_rfl) (by kernel_rfl) hI (by kernel_rfl) ?_
            refine GmT.p 10 23 (undef) 2 (by kernel_rfl) (by kernel_rfl) hI (by kernel_rfl) ?_
            refine GmT.p 11 24 (undef) 2 (by kernel_rfl) (by kernel_rfl) hI (by kernel_rfl) ?_
            refine GmT.p 12 25 (undef) 2 (by kernel_rfl) (by kernel_rfl) hI (by kernel_rfl) ?_
            refine GmT.p 13 26 (undef) 2 (by kernel_rfl) (by kernel_rfl) hI (by kernel_rfl) ?_
            refine GmT.p 14 27 (.bool false) 2 (by kernel_rfl) (by kernel_rfl) hI (by kernel_rfl) ?_
            refine GmT.p 15 28 (.bool false) 2 (by kernel_rfl) (by kernel_rfl) hI (by kernel_rfl) ?_
            refine GmT.p 16 29 (undef) 2 (by kernel_rfl) (by kernel_rfl) hI (by kernel_rfl) ?_
            refine GmT.p 17 30 (undef) 2 (by kernel_rfl) (by kernel_rfl) hI (by kernel_rfl) ?_
            refine GmT.p 18 31 (undef) 2 (by kernel_rfl) (by kernel_rfl) hI (by kernel_rfl) ?_
            refine GmT.p 19 32 (undef) 2 (by kernel_rfl) (by kernel_rfl) hI (by kernel_rfl) ?_
            refine GmT.p 20 33 (undef) 2 (by kernel_rfl) (by kernel_rfl) hI (by kernel_rfl) ?_
            refine GmT.p 21 34 (.bool false) 2 (by kernel_rfl) (by kernel_rfl) hI (by kernel_rfl) ?_
            refine GmT.p 22 35 (.bool false) 2 (by kernel_rfl) (by kernel_rfl) hI (by kernel_rfl) ?_
            refine GmT.p 23 36 (undef) 2 (by kernel_rfl) (by kernel_rfl) hI (by kernel_rfl) ?_
            refine GmT.p 24 37 (undef) 2 (by kernel_rfl) (by kernel_rfl) hI (by kernel_rfl) ?_
            refine GmT.p 25 38 (undef) 2 (by kernel_rfl) (by kernel_rfl) hI (by kernel_rfl) ?_
            refine GmT.p 26 39 (undef) 2 (by kernel_rfl) (by kernel_rfl) hI (by kernel_rfl) ?_
            refine GmT.p 27 40 (undef) 2 (by kernel_rfl) (by kernel_rfl) hI (by kernel_rfl) ?_
            refine GmT.p 28 41 (undef) 2 (by kernel_rfl) (by kernel_rfl) hI (by kernel_rfl) ?_
            refine GmT.p 29 42 (undef) 2 (by kernel_rfl) (by kernel_rfl) hI (by kernel_rfl) ?_
            refine GmT.p 30 43 (.bool false) 2 (by kernel_rfl) (by kernel_rfl) hI (by kernel_rfl) ?_
            refine GmT.p 31 4 (.bool false) 2 (by kernel_rfl) (by kernel_rfl) hI (by kernel_rfl) ?_
            refine GmT.done (by kernel_rfl) ?_
            have hI := hI.drop
            have e := someS h1
            subst e
            exact Qn.thenJ fun a ha => ⟨false, rfl, ha.keep [4] (by kernel_rfl), hI⟩
        · rw [if_neg hb7] at h1
          have hb7 : y3 = false := by simpa using hb7
          refine GmT.keep [0, 3, 14] (S' := [(0, .string a0), (3, .pointer (some ⟨b1, 0, none⟩)), (14, .bool false)]) (by simp only [hb7]; kernel_rfl) ?_
          refine GmT.p 2 15 (undef) 2 (by kernel_rfl) (by kernel_rfl) hI (by kernel_rfl) ?_
          refine GmT.p 3 16 (undef) 2 (by kernel_rfl) (by kernel_rfl) hI (by kernel_rfl) ?_
          refine GmT.p 4 17 (undef) 2 (by kernel_rfl) (by kernel_rfl) hI (by kernel_rfl) ?_
          refine GmT.p 5 18 (undef) 2 (by kernel_rfl) (by kernel_rfl) hI (by kernel_rfl) ?_
          refine GmT.p 6 19 (undef) 2 (by kernel_rfl) (by kernel_rfl) hI (by kernel_rfl) ?_
          refine GmT.p 7 20 (.bool false) 2 (by kernel_rfl) (by kernel_rfl) hI (by kernel_rfl) ?_
          refine GmT.p 8 21 (.bool false) 2 (by kernel_rfl) (by kernel_rfl) hI (by kernel_rfl) ?_
          refine GmT.p 9 22 (undef) 2 (by kernel_rfl) (by kernel_rfl) hI (by kernel_rfl) ?_
          refine GmT.p 10 23 (undef) 2 (by kernel_rfl) (by kernel_rfl) hI (by kernel_rfl) ?_
          refine GmT.p 11 24 (undef) 2 (by kernel_rfl) (by kernel_rfl) hI (by kernel_rfl) ?_
          refine GmT.p 12 25 (undef) 2 (by kernel_rfl) (by kernel_rfl) hI (by kernel_rfl) ?_
          refine GmT.p 13 26 (undef) 2 (by kernel_rfl) (by kernel_rfl) hI (by kernel_rfl) ?_
          refine GmT.p 14 27 (.bool false) 2 (by kernel_rfl) (by kernel_rfl) hI (by kernel_rfl) ?_
          refine GmT.p 15 28 (.bool false) 2 (by kernel_rfl) (by kernel_rfl) hI (by kernel_rfl) ?_
          refine GmT.p 16 29 (undef) 2 (by kernel_rfl) (by kernel_rfl) hI (by kernel_rfl) ?_
          refine GmT.p 17 30 (undef) 2 (by kernel_rfl) (by kernel_rfl) hI (by kernel_rfl) ?_
          refine GmT.p 18 31 (undef) 2 (by kernel_rfl) (by kernel_rfl) hI (by kernel_rfl) ?_
          refine GmT.p 19 32 (undef) 2 (by kernel_rfl) (by kernel_rfl) hI (by kernel_rfl) ?_
          refine GmT.p 20 33 (undef) 2 (by kernel_rfl) (by kernel_rfl) hI (by kernel_rfl) ?_
          refine GmT.p 21 34 (.bool false) 2 (by kernel_rfl) (by kernel_rfl) hI (by kernel_rfl) ?_
          refine GmT.p 22 35 (.bool false) 2 (by kernel_rfl) (by kernel_rfl) hI (by kernel_rfl) ?_
          refine GmT.p 23 36 (undef) 2 (by kernel_rfl) (by kernel_rfl) hI (by kernel_rfl) ?_
          refine GmT.p 24 37 (undef) 2 (by kernel_rfl) (by kernel_rfl) hI (by kernel_rfl) ?_
          refine GmT.p 25 38 (undef) 2 (by kernel_rfl) (by kernel_rfl) hI (by kernel_rfl) ?_
          refine GmT.p 26 39 (undef) 2 (by kernel_rfl) (by kernel_rfl) hI (by kernel_rfl) ?_
          refine GmT.p 27 40 (undef) 2 (by kernel_rfl) (by kernel_rfl) hI (by kernel_rfl) ?_
          refine GmT.p 28 41 (undef) 2 (by kernel_rfl) (by kernel_rfl) hI (by kernel_rfl) ?_
          refine GmT.p 29 42 (undef) 2 (by kernel_rfl) (by kernel_rfl) hI (by kernel_rfl) ?_
          refine GmT.p 30 43 (.bool false) 2 (by kernel_rfl) (by kernel_rfl) hI (by kernel_rfl) ?_
          refine GmT.p 31 4 (.bool false) 2 (by kernel_rfl) (by kernel_rfl) hI (by kernel_rfl) ?_
          refine GmT.done (by kernel_rfl) ?_
          have hI := hI.drop
          have e := someS h1
          subst e
          exact Qn.thenJ fun a ha => ⟨false, rfl, ha.keep [4] (by kernel_rfl), hI⟩
      ·
        rintro a w ⟨x6, rfl, ha, hI⟩
        try dsimp only at h0
        refine CodT.of ?_ ha
        refine CodT.ret ?_
        have e := someS h0
        subst e
        refine Qn.keep [4] (S' := [(4, .bool x6)]) (by kernel_rfl) ?_
        exact post_ret (v := .bool x6) (fun a ha => RunRes.run (vs := [.bool x6]) (.tmp (t := 4) (by kernel_rfl) .nil) ha (by kernel_rfl)) ⟨rfl, hI⟩
end Go.Cen
