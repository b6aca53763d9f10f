/- The walk of the law ChainCollide, printed by a program of ours. -/
import Derived.Test.YthdoklobbcedcacWx4
set_option linter.unusedVariables false
set_option linter.unusedSimpArgs false
namespace Go.Cen
set_option maxRecDepth 100000 in
set_option maxHeartbeats 4000000 in
/-- cenotaph/cenotaphlaw06.ChainCollide -/
theorem c6 (w0 w : World) (Z : Hp) (A : HP) (hI : Inv w0 Z w A) (A_a0 : Option Addr) (c_a0 : Nat) (a0 : (List ApiEvent)) (hr_a0 : RdS Z c_ApiEvent 37 A_a0 c_a0 a0) (A_a1 : Option Addr) (c_a1 : Nat) (a1 : (List ApiEvent)) (hr_a1 : RdS Z c_ApiEvent 37 A_a1 c_a1 a1) (r : Bool) (h0 : law06_ChainCollide a0 a1 = some r) :
    Calls prog 6 #[.slice A_a0 a0.length c_a0, .slice A_a1 a1.length c_a1] w (fun e w' => e = .returned (.bool r) ∧ Inv w0 Z w' A) := by
  have e4 := calls_intro (R := (fun e w' => e = .returned (.bool r) ∧ Inv w0 Z w' A)) (w := w) (args := [.slice A_a0 a0.length c_a0, .slice A_a1 a1.length c_a1]) (fn := Go.Proofs.Try.f6) 98 Go.Proofs.Try.func6 (by rfl) Go.Proofs.Try.ntmps6 (by kernel_rfl)
  refine e4 ?_
  clear e4
  unfold law06_ChainCollide at h0
  refine CodT.seq ?_
  refine CodT.regionL [0] (by kernel_rfl) ?_
  refine OpsT.pures (r := []) [0] [0, 1] (S' := [(0, .slice A_a0 a0.length c_a0), (1, .slice A_a1 a1.length c_a1)]) (by kernel_rfl) ?_
  refine OpsT.done ?_
  refine Qn.then ?_
  refine CodT.seq ?_
  refine CodT.regionL [0, 1] (by kernel_rfl) ?_
  obtain ⟨y2, hc1, h0⟩ := bindS h0
  try dsimp only at h0
  refine OpsT.cons (Does.call (d := some 14) (n := 8) (vs := []) (by kernel_rfl) en8 (c8 w0 w _ _ hI _ hc1) ?_)
  rintro e w ⟨rfl, hI⟩
  refine ⟨_, rfl, ?_⟩
  refine OpsT.pures (r := []) [1] [0, 1, 5] (S' := [(0, .slice A_a0 a0.length c_a0), (1, .slice A_a1 a1.length c_a1), (5, .bool y2)]) (by kernel_rfl) ?_
  refine OpsT.done ?_
  refine Qn.then ?_
  refine CodT.seq ?_
  refine CodT.seq ?_
  refine CodT.regionL [0, 1] (by kernel_rfl) ?_
  refine OpsT.pures (r := []) [0, 1] [0, 1, 5, 16] (S' := [(0, .slice A_a0 a0.length c_a0), (1, .slice A_a1 a1.length c_a1), (5, .bool y2), (16, .bool (!y2))]) (by kernel_rfl) ?_
  refine OpsT.done ?_
  refine Qn.then ?_
  by_cases hb3 : (!y2) = true
  · rw [if_pos hb3] at h0
    refine CodT.yes' (b := !y2) (by kernel_rfl) hb3 ?_
    refine CodT.seq ?_
    refine CodT.regionL [0] (by kernel_rfl) ?_
    refine OpsT.pures (r := []) [0] [4] (S' := [(4, .bool false)]) (by kernel_rfl) ?_
    refine OpsT.done ?_
    refine Qn.then ?_
    refine CodT.ret ?_
    refine Qn.ret_then ?_
    have e := someS h0
    subst e
    refine Qn.keep [4] (S' := [(4, .bool false)]) (by kernel_rfl) ?_
    exact post_ret (v := .bool false) (fun a ha => RunRes.run (vs := [.bool false]) (.tmp (t := 4) (by kernel_rfl) .nil) ha (by kernel_rfl)) ⟨rfl, hI⟩
  · rw [if_neg hb3] at h0
    refine CodT.no' (b := !y2) (by kernel_rfl) (by simpa using hb3) ?_
    refine CodT.skip ?_
    refine Qn.then ?_
    obtain ⟨r1, h1, h0⟩ := bindS h0
    refine CodT.meet (fun a w => ∃ (x4 : Bool), x4 = r1 ∧ Fr 98 [(0, .slice A_a0 a0.length c_a0), (1, .slice A_a1 a1.length c_a1), (5, .bool y2), (6, .bool x4)] a ∧ Inv w0 Z w A) ?_ ?_
    ·
      refine CodT.regionL [0, 1, 2, 3, 4, 5, 6] (by kernel_rfl) ?_
      refine OpsT.pures (r := [1, 2, 3, 4, 5, 6]) [0] [0, 1, 5, 17] (S' := [(0, .slice A_a0 a0.length c_a0), (1, .slice A_a1 a1.length c_a1), (5, .bool y2), (17, .slice A_a0 a0.length c_a0)]) (by kernel_rfl) ?_
      obtain ⟨y6, hc5, h1⟩ := bindS h1
      try dsimp only at h1
      refine OpsT.cons (Does.call (d := some 18) (n := 9) (vs := [.slice A_a0 a0.length c_a0]) (by kernel_rfl) en9 (c9 w0 w _ _ hI A_a0 c_a0 a0 hr_a0 _ hc5) ?_)
      rintro e w ⟨rfl, hI⟩
      refine ⟨_, rfl, ?_⟩
      refine OpsT.pures (r := [3, 4, 5, 6]) [2] [0, 1, 5, 19] (S' := [(0, .slice A_a0 a0.length c_a0), (1, .slice A_a1 a1.length c_a1), (5, .bool y2), (19, .bool y6)]) (by kernel_rfl) ?_
      by_cases hb7 : y6 = true
      · rw [if_pos hb7] at h1
        refine OpsT.keep [0, 1, 5, 19] (S' := [(0, .slice A_a0 a0.length c_a0), (1, .slice A_a1 a1.length c_a1), (5, .bool y2), (19, .bool true)]) (by simp only [hb7]; kernel_rfl) ?_
        refine OpsT.pures (r := [4, 5, 6]) [3] [0, 1, 5, 19, 20] (S' := [(0, .slice A_a0 a0.length c_a0), (1, .slice A_a1 a1.length c_a1), (5, .bool y2), (19, .bool true), (20, .slice A_a1 a1.length c_a1)]) (by kernel_rfl) ?_
        obtain ⟨y9, hc8, h1⟩ := bindS h1
        try dsimp only at h1
        refine OpsT.cons (Does.call (d := some 21) (n := 9) (vs := [.slice A_a1 a1.length c_a1]) (by kernel_rfl) en9 (c9 w0 w _ _ hI A_a1 c_a1 a1 hr_a1 _ hc8) ?_)
        rintro e w ⟨rfl, hI⟩
        refine ⟨_, rfl, ?_⟩
        refine OpsT.pures (r := []) [5, 6] [0, 1, 5, 6] (S' := [(0, .slice A_a0 a0.length c_a0), (1, .slice A_a1 a1.length c_a1), (5, .bool y2), (6, .bool y9)]) (by kernel_rfl) ?_
        refine OpsT.done ?_
        have e := someS h1
        subst e
        exact Qn.thenJ fun a ha => ⟨y9, rfl, ha.keep [0, 1, 5, 6] (by kernel_rfl), hI⟩
      · rw [if_neg hb7] at h1
        have hb7 : y6 = false := by simpa using hb7
        refine OpsT.keep [0, 1, 5, 19] (S' := [(0, .slice A_a0 a0.length c_a0), (1, .slice A_a1 a1.length c_a1), (5, .bool y2), (19, .bool false)]) (by simp only [hb7]; kernel_rfl) ?_
        refine OpsT.pures (r := []) [3, 4, 5, 6] [0, 1, 5, 6] (S' := [(0, .slice A_a0 a0.length c_a0), (1, .slice A_a1 a1.length c_a1), (5, .bool y2), (6, .bool false)]) (by kernel_rfl) ?_
        refine OpsT.done ?_
        have e := someS h1
        subst e
        exact Qn.thenJ fun a ha => ⟨false, rfl, ha.keep [0, 1, 5, 6] (by kernel_rfl), hI⟩
    ·
      rintro a w ⟨x4, rfl, ha, hI⟩
      try dsimp only at h0
      refine CodT.of ?_ ha
      refine CodT.seq ?_
      refine CodT.seq ?_
      refine CodT.regionL [0, 1] (by kernel_rfl) ?_
      refine OpsT.pures (r := []) [0, 1] [0, 1, 5, 24] (S' := [(0, .slice A_a0 a0.length c_a0), (1, .slice A_a1 a1.length c_a1), (5, .bool y2), (24, .bool (!x4))]) (by kernel_rfl) ?_
      refine OpsT.done ?_
      refine Qn.then ?_
      by_cases hb10 : (!x4) = true
      · rw [if_pos hb10] at h0
        refine CodT.yes' (b := !x4) (by kernel_rfl) hb10 ?_
        refine CodT.seq ?_
        refine CodT.regionL [0, 1] (by kernel_rfl) ?_
        refine OpsT.pures (r := []) [0, 1] [4] (S' := [(4, .bool y2)]) (by kernel_rfl) ?_
        refine OpsT.done ?_
        refine Qn.then ?_
        refine CodT.ret ?_
        refine Qn.ret_then ?_
        have e := someS h0
        subst e
        refine Qn.keep [4] (S' := [(4, .bool y2)]) (by kernel_rfl) ?_
        exact post_ret (v := .bool y2) (fun a ha => RunRes.run (vs := [.bool y2]) (.tmp (t := 4) (by kernel_rfl) .nil) ha (by kernel_rfl)) ⟨rfl, hI⟩
      · rw [if_neg hb10] at h0
        refine CodT.no' (b := !x4) (by kernel_rfl) (by simpa using hb10) ?_
        refine CodT.skip ?_
        refine Qn.then ?_
        refine CodT.seq ?_
        refine CodT.regionL [0, 1, 2, 3, 4, 5, 6, 7, 8] (by kernel_rfl) ?_
        obtain ⟨y12, hc11, h0⟩ := bindS h0
        try dsimp only at h0
        refine OpsT.cons (Does.call (d := some 27) (n := 14) (vs := []) (by kernel_rfl) en14 (c14 w0 w _ _ hI _ hc11) ?_)
        rintro e w ⟨rfl, hl13, hI⟩
        refine ⟨_, rfl, ?_⟩
        refine OpsT.pures (r := [2, 3, 4, 5, 6, 7, 8]) [1] [0, 1, 5, 27, 28] (S' := [(0, .slice A_a0 a0.length c_a0), (1, .slice A_a1 a1.length c_a1), (5, .bool y2), (27, .agg (cA (Value.int .u8) y12).toArray), (28, .slice A_a0 a0.length c_a0)]) (by kernel_rfl) ?_
        obtain ⟨⟨y15, y17⟩, hc14, h0⟩ := bindS h0
        try dsimp only at h0
        refine OpsT.cons (Does.call (d := some 29) (n := 12) (vs := [.agg (cA (Value.int .u8) y12).toArray, .slice A_a0 a0.length c_a0]) (by kernel_rfl) en12 (c12 w0 w _ _ hI y12 hl13 A_a0 c_a0 a0 hr_a0 _ hc14) ?_)
        rintro e w ⟨rfl, hl16, hI⟩
        refine ⟨_, rfl, ?_⟩
        refine OpsT.pures (r := [6, 7, 8]) [3, 4, 5] [0, 1, 5, 30, 31] (S' := [(0, .slice A_a0 a0.length c_a0), (1, .slice A_a1 a1.length c_a1), (5, .bool y2), (30, .agg (cA (Value.int .u8) y15).toArray), (31, .bool y17)]) (by kernel_rfl) ?_
        refine OpsT.cons (Does.allocL (d := 7) (T := 29) (cA (Value.int .u8) (List.replicate 32 (0 : Int))) (by kernel_rfl) ty29 hI (by kernel_rfl) ?_)
        intro b18 w hI
        refine OpsT.cons (Does.storeAll (T := 29) (b := b18) (n := 32) (xs := (List.replicate 32 (0 : Int))) (ys := y15) (by kernel_rfl) ty29 hI (fun _ => rfl) (by kernel_rfl) hl16 ?_)
        intro w hI
        refine OpsT.pures (r := []) [8] [0, 1, 5, 7, 8] (S' := [(0, .slice A_a0 a0.length c_a0), (1, .slice A_a1 a1.length c_a1), (5, .bool y2), (7, .pointer (some ⟨b18, 0, none⟩)), (8, .bool y17)]) (by kernel_rfl) ?_
        refine OpsT.done ?_
        refine Qn.then ?_
        refine CodT.seq ?_
        refine CodT.regionL [0, 1, 2, 3, 4, 5, 6, 7, 8] (by kernel_rfl) ?_
        obtain ⟨y20, hc19, h0⟩ := bindS h0
        try dsimp only at h0
        refine OpsT.cons (Does.call (d := some 33) (n := 14) (vs := []) (by kernel_rfl) en14 (c14 w0 w _ _ hI _ hc19) ?_)
        rintro e w ⟨rfl, hl21, hI⟩
        refine ⟨_, rfl, ?_⟩
        refine OpsT.pures (r := [2, 3, 4, 5, 6, 7, 8]) [1] [0, 1, 5, 7, 8, 33, 34] (S' := [(0, .slice A_a0 a0.length c_a0), (1, .slice A_a1 a1.length c_a1), (5, .bool y2), (7, .pointer (some ⟨b18, 0, none⟩)), (8, .bool y17), (33, .agg (cA (Value.int .u8) y20).toArray), (34, .slice A_a1 a1.length c_a1)]) (by kernel_rfl) ?_
        obtain ⟨⟨y23, y25⟩, hc22, h0⟩ := bindS h0
        try dsimp only at h0
        refine OpsT.cons (Does.call (d := some 35) (n := 12) (vs := [.agg (cA (Value.int .u8) y20).toArray, .slice A_a1 a1.length c_a1]) (by kernel_rfl) en12 (c12 w0 w _ _ hI y20 hl21 A_a1 c_a1 a1 hr_a1 _ hc22) ?_)
        rintro e w ⟨rfl, hl24, hI⟩
        refine ⟨_, rfl, ?_⟩
        refine OpsT.pures (r := [6, 7, 8]) [3, 4, 5] [0, 1, 5, 7, 8, 36, 37] (S' := [(0, .slice A_a0 a0.length c_a0), (1, .slice A_a1 a1.length c_a1), (5, .bool y2), (7, .pointer (some ⟨b18, 0, none⟩)), (8, .bool y17), (36, .agg (cA (Value.int .u8) y23).toArray), (37, .bool y25)]) (by kernel_rfl) ?_
        refine OpsT.cons (Does.allocL (d := 9) (T := 29) (cA (Value.int .u8) (List.replicate 32 (0 : Int))) (by kernel_rfl) ty29 hI (by kernel_rfl) ?_)
        intro b26 w hI
        refine OpsT.cons (Does.storeAll (T := 29) (b := b26) (n := 32) (xs := (List.replicate 32 (0 : Int))) (ys := y23) (by kernel_rfl) ty29 hI (fun _ => rfl) (by kernel_rfl) hl24 ?_)
        intro w hI
        refine OpsT.pures (r := []) [8] [0, 1, 5, 7, 8, 9, 10] (S' := [(0, .slice A_a0 a0.length c_a0), (1, .slice A_a1 a1.length c_a1), (5, .bool y2), (7, .pointer (some ⟨b18, 0, none⟩)), (8, .bool y17), (9, .pointer (some ⟨b26, 0, none⟩)), (10, .bool y25)]) (by kernel_rfl) ?_
        refine OpsT.done ?_
        refine Qn.then ?_
        refine CodT.seq ?_
        refine CodT.regionL [0, 1, 2, 3, 4, 5, 6, 7, 8, 9] (by kernel_rfl) ?_
        refine OpsT.pures (r := [2, 3, 4, 5, 6, 7, 8, 9]) [0, 1] [0, 1, 5, 7, 8, 9, 10, 39, 40] (S' := [(0, .slice A_a0 a0.length c_a0), (1, .slice A_a1 a1.length c_a1), (5, .bool y2), (7, .pointer (some ⟨b18, 0, none⟩)), (8, .bool y17), (9, .pointer (some ⟨b26, 0, none⟩)), (10, .bool y25), (39, .slice A_a0 a0.length c_a0), (40, .slice A_a1 a1.length c_a1)]) (by kernel_rfl) ?_
        obtain ⟨⟨y28, y29, y30⟩, hc27, h0⟩ := bindS h0
        try dsimp only at h0
        refine OpsT.cons (Does.call (d := some 41) (n := 10) (vs := [.slice A_a0 a0.length c_a0, .slice A_a1 a1.length c_a1]) (by kernel_rfl) en10 (c10 w0 w _ _ hI A_a0 c_a0 a0 hr_a0 A_a1 c_a1 a1 hr_a1 _ hc27) ?_)
        rintro e w ⟨rfl, hI⟩
        refine ⟨_, rfl, ?_⟩
        refine OpsT.pures (r := []) [3, 4, 5, 6, 7, 8, 9] [0, 1, 5, 7, 8, 9, 10, 11, 12, 13] (S' := [(0, .slice A_a0 a0.length c_a0), (1, .slice A_a1 a1.length c_a1), (5, .bool y2), (7, .pointer (some ⟨b18, 0, none⟩)), (8, .bool y17), (9, .pointer (some ⟨b26, 0, none⟩)), (10, .bool y25), (11, .string y28), (12, .string y29), (13, .bool y30)]) (by kernel_rfl) ?_
        refine OpsT.done ?_
        refine Qn.then ?_
        refine CodT.seq ?_
        obtain ⟨r1, h1, h0⟩ := bindS h0
        refine CodT.meet (fun a w => ∃ (x31 : Bool), x31 = r1 ∧ Fr 98 [(0, .slice A_a0 a0.length c_a0), (1, .slice A_a1 a1.length c_a1), (5, .bool y2), (11, .string y28), (12, .string y29), (13, .bool y30), (55, .bool x31)] a ∧ Inv w0 Z w A) ?_ ?_
        ·
          refine CodT.regionL [0, 1, 2, 3, 4, 5, 6, 7, 8, 9, 10] (by kernel_rfl) ?_
          refine OpsT.pures (r := [3, 4, 5, 6, 7, 8, 9, 10]) [0, 1, 2] [0, 1, 5, 7, 9, 10, 11, 12, 13, 47] (S' := [(0, .slice A_a0 a0.length c_a0), (1, .slice A_a1 a1.length c_a1), (5, .bool y2), (7, .pointer (some ⟨b18, 0, none⟩)), (9, .pointer (some ⟨b26, 0, none⟩)), (10, .bool y25), (11, .string y28), (12, .string y29), (13, .bool y30), (47, .bool (!y17))]) (by kernel_rfl) ?_
          by_cases hb32 : (!y17) = true
          · rw [if_pos hb32] at h1
            refine OpsT.keep [0, 1, 5, 7, 9, 10, 11, 12, 13, 47] (S' := [(0, .slice A_a0 a0.length c_a0), (1, .slice A_a1 a1.length c_a1), (5, .bool y2), (7, .pointer (some ⟨b18, 0, none⟩)), (9, .pointer (some ⟨b26, 0, none⟩)), (10, .bool y25), (11, .string y28), (12, .string y29), (13, .bool y30), (47, .bool true)]) (by simp only [hb32]; kernel_rfl) ?_
            refine OpsT.pures (r := []) [3, 4, 5, 6, 7, 8, 9, 10] [0, 1, 5, 11, 12, 13, 55] (S' := [(0, .slice A_a0 a0.length c_a0), (1, .slice A_a1 a1.length c_a1), (5, .bool y2), (11, .string y28), (12, .string y29), (13, .bool y30), (55, .bool true)]) (by kernel_rfl) ?_
            refine OpsT.done ?_
            have hI := hI.drop
            have hI := hI.drop
            have e := someS h1
            subst e
            exact Qn.thenJ fun a ha => ⟨true, rfl, ha.keep [0, 1, 5, 11, 12, 13, 55] (by kernel_rfl), hI⟩
          · rw [if_neg hb32] at h1
            have hb32 : (!y17) = false := by simpa using hb32
            refine OpsT.keep [0, 1, 5, 7, 9, 10, 11, 12, 13, 47] (S' := [(0, .slice A_a0 a0.length c_a0), (1, .slice A_a1 a1.length c_a1), (5, .bool y2), (7, .pointer (some ⟨b18, 0, none⟩)), (9, .pointer (some ⟨b26, 0, none⟩)), (10, .bool y25), (11, .string y28), (12, .string y29), (13, .bool y30), (47, .bool false)]) (by simp only [hb32]; kernel_rfl) ?_
            refine OpsT.pures (r := [7, 8, 9, 10]) [3, 4, 5, 6] [0, 1, 5, 7, 9, 11, 12, 13, 51] (S' := [(0, .slice A_a0 a0.length c_a0), (1, .slice A_a1 a1.length c_a1), (5, .bool y2), (7, .pointer (some ⟨b18, 0, none⟩)), (9, .pointer (some ⟨b26, 0, none⟩)), (11, .string y28), (12, .string y29), (13, .bool y30), (51, .bool (!y25))]) (by kernel_rfl) ?_
            by_cases hb33 : (!y25) = true
            · rw [if_pos hb33] at h1
              refine OpsT.keep [0, 1, 5, 7, 9, 11, 12, 13, 51] (S' := [(0, .slice A_a0 a0.length c_a0), (1, .slice A_a1 a1.length c_a1), (5, .bool y2), (7, .pointer (some ⟨b18, 0, none⟩)), (9, .pointer (some ⟨b26, 0, none⟩)), (11, .string y28), (12, .string y29), (13, .bool y30), (51, .bool true)]) (by simp only [hb33]; kernel_rfl) ?_
              refine OpsT.pures (r := []) [7, 8, 9, 10] [0, 1, 5, 11, 12, 13, 55] (S' := [(0, .slice A_a0 a0.length c_a0), (1, .slice A_a1 a1.length c_a1), (5, .bool y2), (11, .string y28), (12, .string y29), (13, .bool y30), (55, .bool true)]) (by kernel_rfl) ?_
              refine OpsT.done ?_
              have hI := hI.drop
              have hI := hI.drop
              have e := someS h1
              subst e
              exact Qn.thenJ fun a ha => ⟨true, rfl, ha.keep [0, 1, 5, 11, 12, 13, 55] (by kernel_rfl), hI⟩
            · rw [if_neg hb33] at h1
              have hb33 : (!y25) = false := by simpa using hb33
              refine OpsT.keep [0, 1, 5, 7, 9, 11, 12, 13, 51] (S' := [(0, .slice A_a0 a0.length c_a0), (1, .slice A_a1 a1.length c_a1), (5, .bool y2), (7, .pointer (some ⟨b18, 0, none⟩)), (9, .pointer (some ⟨b26, 0, none⟩)), (11, .string y28), (12, .string y29), (13, .bool y30), (51, .bool false)]) (by simp only [hb33]; kernel_rfl) ?_
              refine OpsT.cons (Does.yi (Yl.load (d := 52) (T := 29) (v := .agg (cA (Value.int .u8) y15).toArray) (by kernel_rfl) (ldBN ty29 (l := cA (Value.int .u8) y15) (o := 0) (cs := cA (Value.int .u8) y15) (pick2 _ _ _) ((cA_length _ _).trans hl16) (whole _ _ ((cA_length _ _).trans hl16)))) hI ?_)
              refine OpsT.cons (Does.yi (Yl.load (d := 53) (T := 29) (v := .agg (cA (Value.int .u8) y23).toArray) (by kernel_rfl) (ldBN ty29 (l := cA (Value.int .u8) y23) (o := 0) (cs := cA (Value.int .u8) y23) (ent_refl _) ((cA_length _ _).trans hl24) (whole _ _ ((cA_length _ _).trans hl24)))) hI ?_)
              refine OpsT.cons (Does.yi (Yl.neqA (k := .u8) (d := 54) (T := 29) (xs := y15) (ys := y23) (by kernel_rfl) Go.Proofs.Try.underlying29 (by kernel_rfl) Go.Proofs.Try.underlying5 ty5 hl16 hl24) hI ?_)
              refine OpsT.pures (r := []) [10] [0, 1, 5, 11, 12, 13, 55] (S' := [(0, .slice A_a0 a0.length c_a0), (1, .slice A_a1 a1.length c_a1), (5, .bool y2), (11, .string y28), (12, .string y29), (13, .bool y30), (55, .bool (!(eqA y15 y23)))]) (by kernel_rfl) ?_
              refine OpsT.done ?_
              have hI := hI.drop
              have hI := hI.drop
              have e := someS h1
              subst e
              exact Qn.thenJ fun a ha => ⟨!(eqA y15 y23), rfl, ha.keep [0, 1, 5, 11, 12, 13, 55] (by kernel_rfl), hI⟩
        ·
          rintro a w ⟨x31, rfl, ha, hI⟩
          try dsimp only at h0
          refine CodT.of ?_ ha
          by_cases hb34 : x31 = true
          · rw [if_pos hb34] at h0
            refine CodT.yes' (b := x31) (by kernel_rfl) hb34 ?_
            obtain ⟨r1, h1, h0⟩ := bindS h0
            refine CodT.meet (fun a w => ∃ (x35 : Bool), x35 = r1 ∧ Fr 98 [(4, .bool x35)] a ∧ Inv w0 Z w A) ?_ ?_
            ·
              refine CodT.regionL [0, 1, 2, 3, 4, 5, 6, 7, 8, 9, 10, 11, 12, 13] (by kernel_rfl) ?_
              refine OpsT.pures (r := [2, 3, 4, 5, 6, 7, 8, 9, 10, 11, 12, 13]) [0, 1] [11, 12, 13, 57] (S' := [(11, .string y28), (12, .string y29), (13, .bool y30), (57, .bool y2)]) (by kernel_rfl) ?_
              by_cases hb36 : y2 = true
              · rw [if_pos hb36] at h1
                refine OpsT.keep [11, 12, 13, 57] (S' := [(11, .string y28), (12, .string y29), (13, .bool y30), (57, .bool true)]) (by simp only [hb36]; kernel_rfl) ?_
                refine OpsT.pures (r := [6, 7, 8, 9, 10, 11, 12, 13]) [2, 3, 4, 5] [11, 12, 61] (S' := [(11, .string y28), (12, .string y29), (61, .bool (!y30))]) (by kernel_rfl) ?_
                by_cases hb37 : (!y30) = true
                · rw [if_pos hb37] at h1
                  refine OpsT.keep [11, 12, 61] (S' := [(11, .string y28), (12, .string y29), (61, .bool true)]) (by simp only [hb37]; kernel_rfl) ?_
                  refine OpsT.pures (r := [10, 11, 12, 13]) [6, 7, 8, 9] [12, 65] (S' := [(12, .string y29), (65, .bool (seq y28 (⟨#[]⟩ : ByteArray)))]) (by kernel_rfl) ?_
                  by_cases hb38 : (seq y28 (⟨#[]⟩ : ByteArray)) = true
                  · rw [if_pos hb38] at h1
                    refine OpsT.keep [12, 65] (S' := [(12, .string y29), (65, .bool true)]) (by simp only [hb38]; kernel_rfl) ?_
                    refine OpsT.pures (r := []) [10, 11, 12, 13] [4] (S' := [(4, .bool (seq y29 (⟨#[]⟩ : ByteArray)))]) (by kernel_rfl) ?_
                    refine OpsT.done ?_
                    have e := someS h1
                    subst e
                    exact Qn.thenJ fun a ha => ⟨seq y29 (⟨#[]⟩ : ByteArray), rfl, ha.keep [4] (by kernel_rfl), hI⟩
                  · rw [if_neg hb38] at h1
                    have hb38 : (seq y28 (⟨#[]⟩ : ByteArray)) = false := by simpa using hb38
                    refine OpsT.keep [12, 65] (S' := [(12, .string y29), (65, .bool false)]) (by simp only [hb38]; kernel_rfl) ?_
                    refine OpsT.pures (r := []) [10, 11, 12, 13] [4] (S' := [(4, .bool false)]) (by kernel_rfl) ?_
                    refine OpsT.done ?_
                    have e := someS h1
                    subst e
                    exact Qn.thenJ fun a ha => ⟨false, rfl, ha.keep [4] (by kernel_rfl), hI⟩
                · rw [if_neg hb37] at h1
                  have hb37 : (!y30) = false := by simpa using hb37
                  refine OpsT.keep [11, 12, 61] (S' := [(11, .string y28), (12, .string y29), (61, .bool false)]) (by simp only [hb37]; kernel_rfl) ?_
                  refine OpsT.pures (r := []) [6, 7, 8, 9, 10, 11, 12, 13] [4] (S' := [(4, .bool false)]) (by kernel_rfl) ?_
                  refine OpsT.done ?_
                  have e := someS h1
                  subst e
                  exact Qn.thenJ fun a ha => ⟨false, rfl, ha.keep [4] (by kernel_rfl), hI⟩
              · rw [if_neg hb36] at h1
                have hb36 : y2 = false := by simpa using hb36
                refine OpsT.keep [11, 12, 13, 57] (S' := [(11, .string y28), (12, .string y29), (13, .bool y30), (57, .bool false)]) (by simp only [hb36]; kernel_rfl) ?_
                refine OpsT.pures (r := []) [2, 3, 4, 5, 6, 7, 8, 9, 10, 11, 12, 13] [4] (S' := [(4, .bool false)]) (by kernel_rfl) ?_
                refine OpsT.done ?_
                have e := someS h1
                subst e
                exact Qn.thenJ fun a ha => ⟨false, rfl, ha.keep [4] (by kernel_rfl), hI⟩
            ·
              rintro a w ⟨x35, rfl, ha, hI⟩
              try dsimp only at h0
              refine CodT.of ?_ ha
              refine CodT.ret ?_
              refine Qn.ret_then ?_
              have e := someS h0
              subst e
              refine Qn.keep [4] (S' := [(4, .bool x35)]) (by kernel_rfl) ?_
              exact post_ret (v := .bool x35) (fun a ha => RunRes.run (vs := [.bool x35]) (.tmp (t := 4) (by kernel_rfl) .nil) ha (by kernel_rfl)) ⟨rfl, hI⟩
          · rw [if_neg hb34] at h0
            refine CodT.no' (b := x31) (by kernel_rfl) (by simpa using hb34) ?_
            refine CodT.skip ?_
            refine Qn.then ?_
            refine CodT.seq ?_
            refine CodT.seq ?_
            refine CodT.regionL [0, 1, 2] (by kernel_rfl) ?_
            refine OpsT.pures (r := [2]) [0, 1] [5, 11, 12, 13, 69, 70] (S' := [(5, .bool y2), (11, .string y28), (12, .string y29), (13, .bool y30), (69, .slice A_a0 a0.length c_a0), (70, .slice A_a1 a1.length c_a1)]) (by kernel_rfl) ?_
            obtain ⟨y40, hc39, h0⟩ := bindS h0
            try dsimp only at h0
            refine OpsT.cons (Does.call (d := some 71) (n := 15) (vs := [.slice A_a0 a0.length c_a0, .slice A_a1 a1.length c_a1]) (by kernel_rfl) en15 (c15 w0 w _ _ hI A_a0 c_a0 a0 hr_a0 A_a1 c_a1 a1 hr_a1 _ hc39) ?_)
            rintro e w ⟨rfl, hI⟩
            refine ⟨_, rfl, ?_⟩
            refine OpsT.done ?_
            refine Qn.then ?_
            by_cases hb41 : y40 = true
            · rw [if_pos hb41] at h0
              refine CodT.yes' (b := y40) (by kernel_rfl) hb41 ?_
              obtain ⟨r1, h1, h0⟩ := bindS h0
              refine CodT.meet (fun a w => ∃ (x42 : Bool), x42 = r1 ∧ Fr 98 [(4, .bool x42)] a ∧ Inv w0 Z w A) ?_ ?_
              ·
                refine CodT.regionL [0, 1, 2, 3, 4, 5] (by kernel_rfl) ?_
                refine OpsT.pures (r := [2, 3, 4, 5]) [0, 1] [13, 73] (S' := [(13, .bool y30), (73, .bool y2)]) (by kernel_rfl) ?_
                by_cases hb43 : y2 = true
                · rw [if_pos hb43] at h1
                  refine OpsT.keep [13, 73] (S' := [(13, .bool y30), (73, .bool true)]) (by simp only [hb43]; kernel_rfl) ?_
                  refine OpsT.pures (r := []) [2, 3, 4, 5] [4] (S' := [(4, .bool (!y30))]) (by kernel_rfl) ?_
                  refine OpsT.done ?_
                  have e := someS h1
                  subst e
                  exact Qn.thenJ fun a ha => ⟨!y30, rfl, ha.keep [4] (by kernel_rfl), hI⟩
                · rw [if_neg hb43] at h1
                  have hb43 : y2 = false := by simpa using hb43
                  refine OpsT.keep [13, 73] (S' := [(13, .bool y30), (73, .bool false)]) (by simp only [hb43]; kernel_rfl) ?_
                  refine OpsT.pures (r := []) [2, 3, 4, 5] [4] (S' := [(4, .bool false)]) (by kernel_rfl) ?_
                  refine OpsT.done ?_
                  have e := someS h1
                  subst e
                  exact Qn.thenJ fun a ha => ⟨false, rfl, ha.keep [4] (by kernel_rfl), hI⟩
              ·
                rintro a w ⟨x42, rfl, ha, hI⟩
                try dsimp only at h0
                refine CodT.of ?_ ha
                refine CodT.ret ?_
                refine Qn.ret_then ?_
                have e := someS h0
                subst e
                refine Qn.keep [4] (S' := [(4, .bool x42)]) (by kernel_rfl) ?_
                exact post_ret (v := .bool x42) (fun a ha => RunRes.run (vs := [.bool x42]) (.tmp (t := 4) (by kernel_rfl) .nil) ha (by kernel_rfl)) ⟨rfl, hI⟩
            · rw [if_neg hb41] at h0
              refine CodT.no' (b := y40) (by kernel_rfl) (by simpa using hb41) ?_
              refine CodT.skip ?_
              refine Qn.then ?_
              obtain ⟨r1, h1, h0⟩ := bindS h0
              refine CodT.meet (fun a w => ∃ (x44 : Bool), x44 = r1 ∧ Fr 98 [(4, .bool x44)] a ∧ Inv w0 Z w A) ?_ ?_
              ·
                refine CodT.regionL [0, 1, 2, 3, 4, 5, 6, 7, 8, 9, 10, 11, 12, 13, 14, 15, 16, 17, 18, 19, 20, 21] (by kernel_rfl) ?_
                refine OpsT.pures (r := [2, 3, 4, 5, 6, 7, 8, 9, 10, 11, 12, 13, 14, 15, 16, 17, 18, 19, 20, 21]) [0, 1] [11, 12, 13, 78] (S' := [(11, .string y28), (12, .string y29), (13, .bool y30), (78, .bool y2)]) (by kernel_rfl) ?_
                by_cases hb45 : y2 = true
                · rw [if_pos hb45] at h1
                  refine OpsT.keep [11, 12, 13, 78] (S' := [(11, .string y28), (12, .string y29), (13, .bool y30), (78, .bool true)]) (by simp only [hb45]; kernel_rfl) ?_
                  refine OpsT.pures (r := [5, 6, 7, 8, 9, 10, 11, 12, 13, 14, 15, 16, 17, 18, 19, 20, 21]) [2, 3, 4] [11, 12, 81] (S' := [(11, .string y28), (12, .string y29), (81, .bool y30)]) (by kernel_rfl) ?_
                  by_cases hb46 : y30 = true
                  · rw [if_pos hb46] at h1
                    refine OpsT.keep [11, 12, 81] (S' := [(11, .string y28), (12, .string y29), (81, .bool true)]) (by simp only [hb46]; kernel_rfl) ?_
                    refine OpsT.pures (r := [10, 11, 12, 13, 14, 15, 16, 17, 18, 19, 20, 21]) [5, 6, 7, 8, 9] [11, 12, 86] (S' := [(11, .string y28), (12, .string y29), (86, .bool (!(seq y28 y29)))]) (by kernel_rfl) ?_
                    by_cases hb47 : (!(seq y28 y29)) = true
                    · rw [if_pos hb47] at h1
                      refine OpsT.keep [11, 12, 86] (S' := [(11, .string y28), (12, .string y29), (86, .bool true)]) (by simp only [hb47]; kernel_rfl) ?_
                      refine OpsT.pures (r := [11, 12, 13, 14, 15, 16, 17, 18, 19, 20, 21]) [10] [11, 12, 86, 87] (S' := [(11, .string y28), (12, .string y29), (86, .bool true), (87, .string y28)]) (by kernel_rfl) ?_
                      obtain ⟨y49, hc48, h1⟩ := bindS h1
                      try dsimp only at h1
                      refine OpsT.cons (Does.call (d := some 88) (n := 16) (vs := [.string y28]) (by kernel_rfl) en16 (c16 w0 w _ _ hI y28 _ hc48) ?_)
                      rintro e w ⟨rfl, hl50, hI⟩
                      refine ⟨_, rfl, ?_⟩
                      refine OpsT.pures (r := [13, 14, 15, 16, 17, 18, 19, 20, 21]) [12] [11, 12, 86, 88, 89] (S' := [(11, .string y28), (12, .string y29), (86, .bool true), (88, .agg (cA (Value.int .u8) y49).toArray), (89, .string y29)]) (by kernel_rfl) ?_
                      obtain ⟨y52, hc51, h1⟩ := bindS h1
                      try dsimp only at h1
                      refine OpsT.cons (Does.call (d := some 90) (n := 16) (vs := [.string y29]) (by kernel_rfl) en16 (c16 w0 w _ _ hI y29 _ hc51) ?_)
                      rintro e w ⟨rfl, hl53, hI⟩
                      refine ⟨_, rfl, ?_⟩
                      refine OpsT.cons (Does.yi (Yl.eqlA (k := .u8) (d := 91) (T := 29) (xs := y49) (ys := y52) (by kernel_rfl) Go.Proofs.Try.underlying29 (by kernel_rfl) Go.Proofs.Try.underlying5 ty5 hl50 hl53) hI ?_)
                      refine OpsT.pures (r := [17, 18, 19, 20, 21]) [15, 16] [11, 12, 93] (S' := [(11, .string y28), (12, .string y29), (93, .bool (eqA y49 y52))]) (by kernel_rfl) ?_
                      by_cases hb54 : (eqA y49 y52) = true
                      · rw [if_pos hb54] at h1
                        refine OpsT.keep [11, 12, 93] (S' := [(11, .string y28), (12, .string y29), (93, .bool true)]) (by simp only [hb54]; kernel_rfl) ?_
                        refine OpsT.pures (r := [19, 20, 21]) [17, 18] [93, 94, 95] (S' := [(93, .bool true), (94, .string y28), (95, .string y29)]) (by kernel_rfl) ?_
                        obtain ⟨y56, hc55, h1⟩ := bindS h1
                        try dsimp only at h1
                        refine OpsT.cons (Does.call (d := some 96) (n := 17) (vs := [.string y28, .string y29]) (by kernel_rfl) en17 (c17 w0 w _ _ hI y28 y29 _ hc55) ?_)
                        rintro e w ⟨rfl, hI⟩
                        refine ⟨_, rfl, ?_⟩
                        refine OpsT.pures (r := []) [20, 21] [4] (S' := [(4, .bool y56)]) (by kernel_rfl) ?_
                        refine OpsT.done ?_
                        have e := someS h1
                        subst e
                        exact Qn.thenJ fun a ha => ⟨y56, rfl, ha.keep [4] (by kernel_rfl), hI⟩
                      · rw [if_neg hb54] at h1
                        have hb54 : (eqA y49 y52) = false := by simpa using hb54
                        refine OpsT.keep [11, 12, 93] (S' := [(11, .string y28), (12, .string y29), (93, .bool false)]) (by simp only [hb54]; kernel_rfl) ?_
                        refine OpsT.pures (r := []) [17, 18, 19, 20, 21] [4] (S' := [(4, .bool false)]) (by kernel_rfl) ?_
                        refine OpsT.done ?_
                        have e := someS h1
                        subst e
                        exact Qn.thenJ fun a ha => ⟨false, rfl, ha.keep [4] (by kernel_rfl), hI⟩
                    · rw [if_neg hb47] at h1
                      have hb47 : (!(seq y28 y29)) = false := by simpa using hb47
                      refine OpsT.keep [11, 12, 86] (S' := [(11, .string y28), (12, .string y29), (86, .bool false)]) (by simp only [hb47]; kernel_rfl) ?_
                      refine OpsT.pures (r := []) [10, 11, 12, 13, 14, 15, 16, 17, 18, 19, 20, 21] [4] (S' := [(4, .bool false)]) (by kernel_rfl) ?_
                      refine OpsT.done ?_
                      have e := someS h1
                      subst e
                      exact Qn.thenJ fun a ha => ⟨false, rfl, ha.keep [4] (by kernel_rfl), hI⟩
                  · rw [if_neg hb46] at h1
                    have hb46 : y30 = false := by simpa using hb46
                    refine OpsT.keep [11, 12, 81] (S' := [(11, .string y28), (12, .string y29), (81, .bool false)]) (by simp only [hb46]; kernel_rfl) ?_
                    refine OpsT.pures (r := []) [5, 6, 7, 8, 9, 10, 11, 12, 13, 14, 15, 16, 17, 18, 19, 20, 21] [4] (S' := [(4, .bool false)]) (by kernel_rfl) ?_
                    refine OpsT.done ?_
                    have e := someS h1
                    subst e
                    exact Qn.thenJ fun a ha => ⟨false, rfl, ha.keep [4] (by kernel_rfl), hI⟩
                · rw [if_neg hb45] at h1
                  have hb45 : y2 = false := by simpa using hb45
                  refine OpsT.keep [11, 12, 13, 78] (S' := [(11, .string y28), (12, .string y29), (13, .bool y30), (78, .bool false)]) (by simp only [hb45]; kernel_rfl) ?_
                  refine OpsT.pures (r := []) [2, 3, 4, 5, 6, 7, 8, 9, 10, 11, 12, 13, 14, 15, 16, 17, 18, 19, 20, 21] [4] (S' := [(4, .bool false)]) (by kernel_rfl) ?_
                  refine OpsT.done ?_
                  have e := someS h1
                  subst e
                  exact Qn.thenJ fun a ha => ⟨false, rfl, ha.keep [4] (by kernel_rfl), hI⟩
              ·
                rintro a w ⟨x44, rfl, ha, hI⟩
                try dsimp only at h0
                refine CodT.of ?_ ha
                refine CodT.ret ?_
                have e := someS h0
                subst e
                refine Qn.keep [4] (S' := [(4, .bool x44)]) (by kernel_rfl) ?_
                exact post_ret (v := .bool x44) (fun a ha => RunRes.run (vs := [.bool x44]) (.tmp (t := 4) (by kernel_rfl) .nil) ha (by kernel_rfl)) ⟨rfl, hI⟩
end Go.Cen
