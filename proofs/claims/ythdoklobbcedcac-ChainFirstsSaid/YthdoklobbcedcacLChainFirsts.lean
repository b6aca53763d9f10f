/- The walk of the law ChainFirsts, printed by a program of ours. -/
import Derived.Test.YthdoklobbcedcacWx4
set_option linter.unusedVariables false
set_option linter.unusedSimpArgs false
namespace Go.Cen
set_option maxRecDepth 100000 in
set_option maxHeartbeats 4000000 in
/-- cenotaph/cenotaphlaw06.ChainFirsts -/
theorem c5 (w0 w : World) (Z : Hp) (A : HP) (hI : Inv w0 Z w A) (A_a0 : Option Addr) (c_a0 : Nat) (a0 : (List ApiEvent)) (hr_a0 : RdS Z c_ApiEvent 37 A_a0 c_a0 a0) (a1 : Int) (r : Bool) (h0 : law06_ChainFirsts a0 a1 = some r) :
    Calls prog 5 #[.slice A_a0 a0.length c_a0, .int .i64 a1] w (fun e w' => e = .returned (.bool r) ∧ Inv w0 Z w' A) := by
  have e4 := calls_intro (R := (fun e w' => e = .returned (.bool r) ∧ Inv w0 Z w' A)) (w := w) (args := [.slice A_a0 a0.length c_a0, .int .i64 a1]) (fn := Go.Proofs.Try.f5) 85 Go.Proofs.Try.func5 (by rfl) Go.Proofs.Try.ntmps5 (by kernel_rfl)
  refine e4 ?_
  clear e4
  unfold law06_ChainFirsts at h0
  refine CodT.seq ?_
  refine CodT.regionL [0] (by kernel_rfl) ?_
  refine OpsT.pures (r := []) [0] [0, 1] (S' := [(0, .slice A_a0 a0.length c_a0), (1, .int .i64 a1)]) (by kernel_rfl) ?_
  refine OpsT.done ?_
  refine Qn.then ?_
  refine CodT.seq ?_
  refine CodT.regionL [0, 1] (by kernel_rfl) ?_
  obtain ⟨y2, hc1, h0⟩ := bindS h0
  try dsimp only at h0
  refine OpsT.cons (Does.call (d := some 11) (n := 8) (vs := []) (by kernel_rfl) en8 (c8 w0 w _ _ hI _ hc1) ?_)
  rintro e w ⟨rfl, hI⟩
  refine ⟨_, rfl, ?_⟩
  refine OpsT.pures (r := []) [1] [0, 1, 5] (S' := [(0, .slice A_a0 a0.length c_a0), (1, .int .i64 a1), (5, .bool y2)]) (by kernel_rfl) ?_
  refine OpsT.done ?_
  refine Qn.then ?_
  refine CodT.seq ?_
  refine CodT.seq ?_
  refine CodT.regionL [0, 1] (by kernel_rfl) ?_
  refine OpsT.pures (r := []) [0, 1] [0, 1, 5, 13] (S' := [(0, .slice A_a0 a0.length c_a0), (1, .int .i64 a1), (5, .bool y2), (13, .bool (!y2))]) (by kernel_rfl) ?_
  refine OpsT.done ?_
  refine Qn.then ?_
  by_cases hb3 : (!y2) = true
  · rw [if_pos hb3] at h0
    refine CodT.yes' (b := !y2) (by kernel_rfl) hb3 ?_
    refine CodT.seq ?_
    refine CodT.regionL [0] (by kernel_rfl) ?_
    refine OpsT.pures (r := []) [0] [4] (S' := [(4, .bool false)]) (by kernel_rfl) ?_
    refine OpsT.done ?_
    refine Qn.then ?_
    refine CodT.ret ?_
    refine Qn.ret_then ?_
    have e := someS h0
    subst e
    refine Qn.keep [4] (S' := [(4, .bool false)]) (by kernel_rfl) ?_
    exact post_ret (v := .bool false) (fun a ha => RunRes.run (vs := [.bool false]) (.tmp (t := 4) (by kernel_rfl) .nil) ha (by kernel_rfl)) ⟨rfl, hI⟩
  · rw [if_neg hb3] at h0
    refine CodT.no' (b := !y2) (by kernel_rfl) (by simpa using hb3) ?_
    refine CodT.skip ?_
    refine Qn.then ?_
    refine CodT.seq ?_
    refine CodT.regionL [0, 1, 2] (by kernel_rfl) ?_
    refine OpsT.pures (r := [1, 2]) [0] [0, 1, 5, 14] (S' := [(0, .slice A_a0 a0.length c_a0), (1, .int .i64 a1), (5, .bool y2), (14, .slice A_a0 a0.length c_a0)]) (by kernel_rfl) ?_
    obtain ⟨y5, hc4, h0⟩ := bindS h0
    try dsimp only at h0
    refine OpsT.cons (Does.call (d := some 15) (n := 9) (vs := [.slice A_a0 a0.length c_a0]) (by kernel_rfl) en9 (c9 w0 w _ _ hI A_a0 c_a0 a0 hr_a0 _ hc4) ?_)
    rintro e w ⟨rfl, hI⟩
    refine ⟨_, rfl, ?_⟩
    refine OpsT.pures (r := []) [2] [0, 1, 5, 6] (S' := [(0, .slice A_a0 a0.length c_a0), (1, .int .i64 a1), (5, .bool y2), (6, .bool y5)]) (by kernel_rfl) ?_
    refine OpsT.done ?_
    refine Qn.then ?_
    refine CodT.seq ?_
    obtain ⟨r1, h1, h0⟩ := bindS h0
    refine CodT.meet (fun a w => ∃ (x6 : Bool), x6 = r1 ∧ Fr 85 [(0, .slice A_a0 a0.length c_a0), (1, .int .i64 a1), (5, .bool y2), (27, .bool x6)] a ∧ Inv w0 Z w A) ?_ ?_
    ·
      refine CodT.regionL [0, 1, 2, 3, 4, 5, 6, 7, 8, 9, 10, 11] (by kernel_rfl) ?_
      refine OpsT.pures (r := [3, 4, 5, 6, 7, 8, 9, 10, 11]) [0, 1, 2] [0, 1, 5, 18] (S' := [(0, .slice A_a0 a0.length c_a0), (1, .int .i64 a1), (5, .bool y2), (18, .bool (!y5))]) (by kernel_rfl) ?_
      by_cases hb7 : (!y5) = true
      · rw [if_pos hb7] at h1
        refine OpsT.keep [0, 1, 5, 18] (S' := [(0, .slice A_a0 a0.length c_a0), (1, .int .i64 a1), (5, .bool y2), (18, .bool true)]) (by simp only [hb7]; kernel_rfl) ?_
        refine OpsT.pures (r := []) [3, 4, 5, 6, 7, 8, 9, 10, 11] [0, 1, 5, 27] (S' := [(0, .slice A_a0 a0.length c_a0), (1, .int .i64 a1), (5, .bool y2), (27, .bool true)]) (by kernel_rfl) ?_
        refine OpsT.done ?_
        have e := someS h1
        subst e
        exact Qn.thenJ fun a ha => ⟨true, rfl, ha.keep [0, 1, 5, 27] (by kernel_rfl), hI⟩
      · rw [if_neg hb7] at h1
        have hb7 : (!y5) = false := by simpa using hb7
        refine OpsT.keep [0, 1, 5, 18] (S' := [(0, .slice A_a0 a0.length c_a0), (1, .int .i64 a1), (5, .bool y2), (18, .bool false)]) (by simp only [hb7]; kernel_rfl) ?_
        refine OpsT.pures (r := [7, 8, 9, 10, 11]) [3, 4, 5, 6] [0, 1, 5, 22] (S' := [(0, .slice A_a0 a0.length c_a0), (1, .int .i64 a1), (5, .bool y2), (22, .bool (decide (a1 < 0)))]) (by kernel_rfl) ?_
        by_cases hb8 : (decide (a1 < 0)) = true
        · rw [if_pos hb8] at h1
          refine OpsT.keep [0, 1, 5, 22] (S' := [(0, .slice A_a0 a0.length c_a0), (1, .int .i64 a1), (5, .bool y2), (22, .bool true)]) (by simp only [hb8]; kernel_rfl) ?_
          refine OpsT.pures (r := []) [7, 8, 9, 10, 11] [0, 1, 5, 27] (S' := [(0, .slice A_a0 a0.length c_a0), (1, .int .i64 a1), (5, .bool y2), (27, .bool true)]) (by kernel_rfl) ?_
          refine OpsT.done ?_
          have e := someS h1
          subst e
          exact Qn.thenJ fun a ha => ⟨true, rfl, ha.keep [0, 1, 5, 27] (by kernel_rfl), hI⟩
        · rw [if_neg hb8] at h1
          have hb8 : (decide (a1 < 0)) = false := by simpa using hb8
          refine OpsT.keep [0, 1, 5, 22] (S' := [(0, .slice A_a0 a0.length c_a0), (1, .int .i64 a1), (5, .bool y2), (22, .bool false)]) (by simp only [hb8]; kernel_rfl) ?_
          refine OpsT.pures (r := []) [7, 8, 9, 10, 11] [0, 1, 5, 27] (S' := [(0, .slice A_a0 a0.length c_a0), (1, .int .i64 a1), (5, .bool y2), (27, .bool (decide (a1 > (a0.length : Int))))]) (by kernel_rfl) ?_
          refine OpsT.done ?_
          have e := someS h1
          subst e
          exact Qn.thenJ fun a ha => ⟨decide (a1 > (a0.length : Int)), rfl, ha.keep [0, 1, 5, 27] (by kernel_rfl), hI⟩
    ·
      rintro a w ⟨x6, rfl, ha, hI⟩
      try dsimp only at h0
      refine CodT.of ?_ ha
      by_cases hb9 : x6 = true
      · rw [if_pos hb9] at h0
        refine CodT.yes' (b := x6) (by kernel_rfl) hb9 ?_
        refine CodT.seq ?_
        refine CodT.regionL [0, 1] (by kernel_rfl) ?_
        refine OpsT.pures (r := []) [0, 1] [4] (S' := [(4, .bool y2)]) (by kernel_rfl) ?_
        refine OpsT.done ?_
        refine Qn.then ?_
        refine CodT.ret ?_
        refine Qn.ret_then ?_
        have e := someS h0
        subst e
        refine Qn.keep [4] (S' := [(4, .bool y2)]) (by kernel_rfl) ?_
        exact post_ret (v := .bool y2) (fun a ha => RunRes.run (vs := [.bool y2]) (.tmp (t := 4) (by kernel_rfl) .nil) ha (by kernel_rfl)) ⟨rfl, hI⟩
      · rw [if_neg hb9] at h0
        refine CodT.no' (b := x6) (by kernel_rfl) (by simpa using hb9) ?_
        refine CodT.skip ?_
        refine Qn.then ?_
        refine CodT.seq ?_
        refine CodT.regionL [0, 1, 2] (by kernel_rfl) ?_
        refine OpsT.pures (r := [1, 2]) [0] [0, 1, 5, 29] (S' := [(0, .slice A_a0 a0.length c_a0), (1, .int .i64 a1), (5, .bool y2), (29, .slice A_a0 a0.length c_a0)]) (by kernel_rfl) ?_
        obtain ⟨y11, hc10, h0⟩ := bindS h0
        try dsimp only at h0
        refine OpsT.cons (Does.call (d := some 30) (n := 13) (vs := [.slice A_a0 a0.length c_a0]) (by kernel_rfl) en13 (c13 w0 w _ _ hI A_a0 c_a0 a0 hr_a0 _ hc10) ?_)
        rintro e w ⟨A12, cp13, rfl, hI⟩
        refine ⟨_, rfl, ?_⟩
        refine OpsT.pures (r := []) [2] [0, 1, 5, 7] (S' := [(0, .slice A_a0 a0.length c_a0), (1, .int .i64 a1), (5, .bool y2), (7, .slice A12 y11.length cp13)]) (by kernel_rfl) ?_
        refine OpsT.done ?_
        refine Qn.then ?_
        refine CodT.seq ?_
        refine CodT.seq ?_
        refine CodT.regionL [0, 1, 2] (by kernel_rfl) ?_
        refine OpsT.pures (r := []) [0, 1, 2] [0, 1, 5, 7, 33] (S' := [(0, .slice A_a0 a0.length c_a0), (1, .int .i64 a1), (5, .bool y2), (7, .slice A12 y11.length cp13), (33, .bool ((y11.length : Int) == 0))]) (by kernel_rfl) ?_
        refine OpsT.done ?_
        refine Qn.then ?_
        by_cases hb14 : ((y11.length : Int) == 0) = true
        · rw [if_pos hb14] at h0
          refine CodT.yes' (b := (y11.length : Int) == 0) (by kernel_rfl) hb14 ?_
          refine CodT.seq ?_
          refine CodT.regionL [0, 1] (by kernel_rfl) ?_
          refine OpsT.pures (r := []) [0, 1] [4] (S' := [(4, .bool y2)]) (by kernel_rfl) ?_
          refine OpsT.done ?_
          refine Qn.then ?_
          refine CodT.ret ?_
          refine Qn.ret_then ?_
          have hI := hI.drop
          have e := someS h0
          subst e
          refine Qn.keep [4] (S' := [(4, .bool y2)]) (by kernel_rfl) ?_
          exact post_ret (v := .bool y2) (fun a ha => RunRes.run (vs := [.bool y2]) (.tmp (t := 4) (by kernel_rfl) .nil) ha (by kernel_rfl)) ⟨rfl, hI⟩
        · rw [if_neg hb14] at h0
          refine CodT.no' (b := (y11.length : Int) == 0) (by kernel_rfl) (by simpa using hb14) ?_
          refine CodT.skip ?_
          refine Qn.then ?_
          refine CodT.seq ?_
          refine CodT.regionL [0, 1, 2, 3, 4] (by kernel_rfl) ?_
          refine OpsT.pures (r := [2, 3, 4]) [0, 1] [0, 1, 5, 7, 35, 36] (S' := [(0, .slice A_a0 a0.length c_a0), (1, .int .i64 a1), (5, .bool y2), (7, .slice A12 y11.length cp13), (35, .slice A_a0 a0.length c_a0), (36, .int .i64 a1)]) (by kernel_rfl) ?_
          obtain ⟨hg15, h0⟩ := guardS h0
          have hf21 := hr_a0
          have hr18 := RdS.sub hf21 hg15
          obtain ⟨A16, hA19⟩ : ∃ x, subA A_a0 c_a0 0 37 = x := ⟨_, rfl⟩
          obtain ⟨cp17, hc20⟩ : ∃ x, c_a0 - (0 : Int).toNat = x := ⟨_, rfl⟩
          rw [hA19, hc20] at hr18
          refine OpsT.cons (Does.yi (Yl.sub (lo := none) (hi := (some (.int .i64 a1))) (d := 37) (T := 22) (a := 0) (b := a1) (by kernel_rfl) Go.Proofs.Try.underlying22 ty42 (.inr ⟨rfl, rfl⟩) (.inl ⟨_, rfl⟩) hg15 hf21.1 (sub_length _ hg15) hA19 hc20) hI ?_)
          obtain ⟨y23, hc22, h0⟩ := bindS h0
          try dsimp only at h0
          refine OpsT.cons (Does.call (d := some 38) (n := 13) (vs := [.slice A16 ((sub a0 0 a1).length) cp17]) (by kernel_rfl) en13 (c13 w0 w _ _ hI A16 cp17 (sub a0 0 a1) hr18 _ hc22) ?_)
          rintro e w ⟨A24, cp25, rfl, hI⟩
          refine ⟨_, rfl, ?_⟩
          refine OpsT.pures (r := []) [4] [0, 1, 5, 7, 8] (S' := [(0, .slice A_a0 a0.length c_a0), (1, .int .i64 a1), (5, .bool y2), (7, .slice A12 y11.length cp13), (8, .slice A24 y23.length cp25)]) (by kernel_rfl) ?_
          refine OpsT.done ?_
          refine Qn.then ?_
          obtain ⟨r1, h1, h0⟩ := bindS h0
          refine CodT.meet (fun a w => ∃ (x27 : (List Int)) (x29 : Bool) (b26 : Nat), (x27, x29) = r1 ∧ Fr 85 [(0, .slice A_a0 a0.length c_a0), (1, .int .i64 a1), (5, .bool y2), (7, .slice A12 y11.length cp13), (8, .slice A24 y23.length cp25), (9, .pointer (some ⟨b26, 0, none⟩)), (10, .bool x29)] a ∧ Inv w0 Z w (star (pt b26 (.cells (cA (Value.int .u8) x27).toArray 29 (0, 0))) (star (ownS 29 (cA (Value.int .u8)) 32 A24 cp25 y23) (star (ownS 29 (cA (Value.int .u8)) 32 A12 cp13 y11) A))) ∧ x27.length = 32) ?_ ?_
          ·
            refine CodT.drawI (n := 11) [9] (by kernel_rfl) (by kernel_rfl) hI ?_
            intro w hI
            refine GmT.p' 1 41 (.slice A_a0 a0.length c_a0) (by kernel_rfl) (by kernel_rfl) ?_
            refine GmT.p' 2 42 (.int .i64 a1) (by kernel_rfl) (by kernel_rfl) ?_
            obtain ⟨hg30, h1⟩ := guardS h1
            have hf36 := hr_a0
            have hr33 := RdS.sub hf36 hg30
            obtain ⟨A31, hA34⟩ : ∃ x, subA A_a0 c_a0 0 37 = x := ⟨_, rfl⟩
            obtain ⟨cp32, hc35⟩ : ∃ x, c_a0 - (0 : Int).toNat = x := ⟨_, rfl⟩
            rw [hA34, hc35] at hr33
            refine GmT.r (i := 3) 2 (by kernel_rfl) (by kernel_rfl) (Yl.sub (lo := none) (hi := (some (.int .i64 a1))) (d := 43) (T := 22) (a := 0) (b := a1) (by kernel_rfl) Go.Proofs.Try.underlying22 ty42 (.inr ⟨rfl, rfl⟩) (.inl ⟨_, rfl⟩) hg30 hf36.1 (sub_length _ hg30) hA34 hc35) hI ?_
            refine GmT.several [0, 8] (by kernel_rfl) rfl ?_
            intro i hi; simp only [List.mem_cons, List.not_mem_nil, or_false] at hi; rcases hi with rfl | rfl
            ·
              obtain ⟨y38, hc37, h1⟩ := bindS h1
              try dsimp only at h1
              rw [lst_set]
              refine (Does.call (d := some 40) (n := 14) (vs := []) (by kernel_rfl) en14 (c14 w0 w _ _ hI _ hc37) ?_)
              rintro e w ⟨rfl, hl39, hI⟩
              refine ⟨_, rfl, ?_⟩
              refine ⟨fun _ _ => hI, ?_⟩
              refine GmT.several [4, 8] (by kernel_rfl) rfl ?_
              intro i hi; simp only [List.mem_cons, List.not_mem_nil, or_false] at hi; rcases hi with rfl | rfl
              ·
                obtain ⟨⟨y41, y43⟩, hc40, h1⟩ := bindS h1
                try dsimp only at h1
                rw [lst_set]
                refine (Does.call (d := some 44) (n := 12) (vs := [.agg (cA (Value.int .u8) y38).toArray, .slice A31 ((sub a0 0 a1).length) cp32]) (by kernel_rfl) en12 (c12 w0 w _ _ hI y38 hl39 A31 cp32 (sub a0 0 a1) hr33 _ hc40) ?_)
                rintro e w ⟨rfl, hl42, hI⟩
                refine ⟨_, rfl, ?_⟩
                refine ⟨fun _ _ => hI, ?_⟩
                refine GmT.p' 5 39 (.tuple #[.agg (cA (Value.int .u8) y41).toArray, .bool y43]) (by kernel_rfl) (by kernel_rfl) ?_
                refine GmT.p' 6 45 (.agg (cA (Value.int .u8) y41).toArray) (by kernel_rfl) (by kernel_rfl) ?_
                refine GmT.p' 7 46 (.bool y43) (by kernel_rfl) (by kernel_rfl) ?_
                refine GmT.o (i := 8) (by kernel_rfl) (Does.allocL (d := 9) (T := 29) (cA (Value.int .u8) (List.replicate 32 (0 : Int))) (by kernel_rfl) ty29 hI (by kernel_rfl) ?_)
                intro b44 w hI
                have hC := hI
                have hC := hC.drop
                refine ⟨fun _ _ => hC, ?_⟩
                refine GmT.o (i := 9) (by kernel_rfl) (Does.storeAll (T := 29) (b := b44) (n := 32) (xs := (List.replicate 32 (0 : Int))) (ys := y41) (by kernel_rfl) ty29 hI (fun _ => rfl) (by kernel_rfl) hl42 ?_)
                intro w hI
                refine ⟨fun h => absurd h (by decide), ?_⟩
                refine GmT.p' 10 10 (.bool y43) (by kernel_rfl) (by kernel_rfl) ?_
                refine GmT.done (by kernel_rfl) ?_
                have e := someS h1
                subst e
                exact Qn.thenJ fun a ha => ⟨y41, y43, b44, rfl, ha.keep [0, 1, 5, 7, 8, 9, 10] (by kernel_rfl), hI, hl42⟩
              ·
                rw [lst_set]
                refine (Does.allocL (d := 9) (T := 29) (cA (Value.int .u8) (List.replicate 32 (0 : Int))) (by kernel_rfl) ty29 hI (by kernel_rfl) ?_)
                intro b45 w hI
                have hC := hI
                have hC := hC.drop
                refine ⟨fun _ _ => hC, ?_⟩
                obtain ⟨⟨y47, y49⟩, hc46, h1⟩ := bindS h1
                try dsimp only at h1
                refine GmT.o (i := 4) (by kernel_rfl) (Does.call (d := some 44) (n := 12) (vs := [.agg (cA (Value.int .u8) y38).toArray, .slice A31 ((sub a0 0 a1).length) cp32]) (by kernel_rfl) en12 (c12 w0 w _ _ hI y38 hl39 A31 cp32 (sub a0 0 a1) hr33 _ hc46) ?_)
                rintro e w ⟨rfl, hl48, hI⟩
                refine ⟨_, rfl, ?_⟩
                have hC := hI
                have hC := hC.drop
                refine ⟨fun _ _ => hC, ?_⟩
                refine GmT.p' 5 39 (.tuple #[.agg (cA (Value.int .u8) y47).toArray, .bool y49]) (by kernel_rfl) (by kernel_rfl) ?_
                refine GmT.p' 6 45 (.agg (cA (Value.int .u8) y47).toArray) (by kernel_rfl) (by kernel_rfl) ?_
                refine GmT.p' 7 46 (.bool y49) (by kernel_rfl) (by kernel_rfl) ?_
                refine GmT.o (i := 9) (by kernel_rfl) (Does.storeAll (T := 29) (b := b45) (n := 32) (xs := (List.replicate 32 (0 : Int))) (ys := y47) (by kernel_rfl) ty29 hI (fun _ => rfl) (by kernel_rfl) hl48 ?_)
                intro w hI
                refine ⟨fun h => absurd h (by decide), ?_⟩
                refine GmT.p' 10 10 (.bool y49) (by kernel_rfl) (by kernel_rfl) ?_
                refine GmT.done (by kernel_rfl) ?_
                have e := someS h1
                subst e
                exact Qn.thenJ fun a ha => ⟨y47, y49, b45, rfl, ha.keep [0, 1, 5, 7, 8, 9, 10] (by kernel_rfl), hI, hl48⟩
            ·
              rw [lst_set]
              refine (Does.allocL (d := 9) (T := 29) (cA (Value.int .u8) (List.replicate 32 (0 : Int))) (by kernel_rfl) ty29 hI (by kernel_rfl) ?_)
              intro b50 w hI
              have hC := hI
              have hC := hC.drop
              refine ⟨fun _ _ => hC, ?_⟩
              obtain ⟨y52, hc51, h1⟩ := bindS h1
              try dsimp only at h1
              refine GmT.o (i := 0) (by kernel_rfl) (Does.call (d := some 40) (n := 14) (vs := []) (by kernel_rfl) en14 (c14 w0 w _ _ hI _ hc51) ?_)
              rintro e w ⟨rfl, hl53, hI⟩
              refine ⟨_, rfl, ?_⟩
              have hC := hI
              have hC := hC.drop
              refine ⟨fun _ _ => hC, ?_⟩
              obtain ⟨⟨y55, y57⟩, hc54, h1⟩ := bindS h1
              try dsimp only at h1
              refine GmT.o (i := 4) (by kernel_rfl) (Does.call (d := some 44) (n := 12) (vs := [.agg (cA (Value.int .u8) y52).toArray, .slice A31 ((sub a0 0 a1).length) cp32]) (by kernel_rfl) en12 (c12 w0 w _ _ hI y52 hl53 A31 cp32 (sub a0 0 a1) hr33 _ hc54) ?_)
              rintro e w ⟨rfl, hl56, hI⟩
              refine ⟨_, rfl, ?_⟩
              have hC := hI
              have hC := hC.drop
              refine ⟨fun _ _ => hC, ?_⟩
              refine GmT.p' 5 39 (.tuple #[.agg (cA (Value.int .u8) y55).toArray, .bool y57]) (by kernel_rfl) (by kernel_rfl) ?_
              refine GmT.p' 6 45 (.agg (cA (Value.int .u8) y55).toArray) (by kernel_rfl) (by kernel_rfl) ?_
              refine GmT.p' 7 46 (.bool y57) (by kernel_rfl) (by kernel_rfl) ?_
              refine GmT.o (i := 9) (by kernel_rfl) (Does.storeAll (T := 29) (b := b50) (n := 32) (xs := (List.replicate 32 (0 : Int))) (ys := y55) (by kernel_rfl) ty29 hI (fun _ => rfl) (by kernel_rfl) hl56 ?_)
              intro w hI
              refine ⟨fun h => absurd h (by decide), ?_⟩
              refine GmT.p' 10 10 (.bool y57) (by kernel_rfl) (by kernel_rfl) ?_
              refine GmT.done (by kernel_rfl) ?_
              have e := someS h1
              subst e
              exact Qn.thenJ fun a ha => ⟨y55, y57, b50, rfl, ha.keep [0, 1, 5, 7, 8, 9, 10] (by kernel_rfl), hI, hl56⟩
          ·
            rintro a w ⟨x27, x29, b26, rfl, ha, hI, hl28⟩
            try dsimp only at h0
            refine CodT.of ?_ ha
            obtain ⟨r1, h1, h0⟩ := bindS h0
            refine CodT.meet (fun a w => ∃ (x58 : Bool), x58 = r1 ∧ Fr 85 [(4, .bool x58)] a ∧ Inv w0 Z w A) ?_ ?_
            ·
              refine CodT.drawI (n := 39) [] (by kernel_rfl) (by kernel_rfl) hI ?_
              intro w hI
              refine GmT.p' 0 47 (.bool y2) (by kernel_rfl) (by kernel_rfl) ?_
              refine GmT.p' 1 48 (.bool y2) (by kernel_rfl) (by kernel_rfl) ?_
              by_cases hb59 : y2 = true
              · rw [if_pos hb59] at h1
                refine GmT.keep [0, 1, 7, 8, 9, 10, 48] (S' := [(0, .slice A_a0 a0.length c_a0), (1, .int .i64 a1), (7, .slice A12 y11.length cp13), (8, .slice A24 y23.length cp25), (9, .pointer (some ⟨b26, 0, none⟩)), (10, .bool x29), (48, .bool true)]) (by simp only [hb59]; kernel_rfl) ?_
                refine GmT.p' 2 49 (.bool x29) (by kernel_rfl) (by kernel_rfl) ?_
                refine GmT.p' 3 50 (.bool x29) (by kernel_rfl) (by kernel_rfl) ?_
                refine GmT.p' 4 51 (.bool x29) (by kernel_rfl) (by kernel_rfl) ?_
                by_cases hb60 : x29 = true
                · rw [if_pos hb60] at h1
                  refine GmT.keep [0, 1, 7, 8, 9, 51] (S' := [(0, .slice A_a0 a0.length c_a0), (1, .int .i64 a1), (7, .slice A12 y11.length cp13), (8, .slice A24 y23.length cp25), (9, .pointer (some ⟨b26, 0, none⟩)), (51, .bool true)]) (by simp only [hb60]; kernel_rfl) ?_
                  refine GmT.p' 5 52 (.slice A12 y11.length cp13) (by kernel_rfl) (by kernel_rfl) ?_
                  refine GmT.p' 6 53 (.int .i64 (y11.length : Int)) (by kernel_rfl) (by kernel_rfl) ?_
                  refine GmT.p' 7 54 (.slice A_a0 a0.length c_a0) (by kernel_rfl) (by kernel_rfl) ?_
                  refine GmT.p' 8 55 (.int .i64 (a0.length : Int)) (by kernel_rfl) (by kernel_rfl) ?_
                  refine GmT.p' 9 56 (.int .i64 (wi64 ((a0.length : Int) + 1))) (by kernel_rfl) (by kernel_rfl) ?_
                  refine GmT.p' 10 57 (.bool ((y11.length : Int) == (wi64 ((a0.length : Int) + 1)))) (by kernel_rfl) (by kernel_rfl) ?_
                  refine GmT.p' 11 58 (.bool ((y11.length : Int) == (wi64 ((a0.length : Int) + 1)))) (by kernel_rfl) (by kernel_rfl) ?_
                  refine GmT.p' 12 59 (.bool ((y11.length : Int) == (wi64 ((a0.length : Int) + 1)))) (by kernel_rfl) (by kernel_rfl) ?_
                  by_cases hb61 : ((y11.length : Int) == (wi64 ((a0.length : Int) + 1))) = true
                  · rw [if_pos hb61] at h1
                    refine GmT.keep [1, 7, 8, 9, 59] (S' := [(1, .int .i64 a1), (7, .slice A12 y11.length cp13), (8, .slice A24 y23.length cp25), (9, .pointer (some ⟨b26, 0, none⟩)), (59, .bool true)]) (by simp only [hb61]; kernel_rfl) ?_
                    refine GmT.p' 13 60 (.slice A24 y23.length cp25) (by kernel_rfl) (by kernel_rfl) ?_
                    refine GmT.p' 14 61 (.int .i64 (y23.length : Int)) (by kernel_rfl) (by kernel_rfl) ?_
                    refine GmT.p' 15 62 (.int .i64 a1) (by kernel_rfl) (by kernel_rfl) ?_
                    refine GmT.p' 16 63 (.int .i64 (wi64 (a1 + 1))) (by kernel_rfl) (by kernel_rfl) ?_
                    refine GmT.p' 17 64 (.bool ((y23.length : Int) == (wi64 (a1 + 1)))) (by kernel_rfl) (by kernel_rfl) ?_
                    refine GmT.p' 18 65 (.bool ((y23.length : Int) == (wi64 (a1 + 1)))) (by kernel_rfl) (by kernel_rfl) ?_
                    refine GmT.p' 19 66 (.bool ((y23.length : Int) == (wi64 (a1 + 1)))) (by kernel_rfl) (by kernel_rfl) ?_
                    by_cases hb62 : ((y23.length : Int) == (wi64 (a1 + 1))) = true
                    · rw [if_pos hb62] at h1
                      refine GmT.keep [1, 7, 8, 9, 66] (S' := [(1, .int .i64 a1), (7, .slice A12 y11.length cp13), (8, .slice A24 y23.length cp25), (9, .pointer (some ⟨b26, 0, none⟩)), (66, .bool true)]) (by simp only [hb62]; kernel_rfl) ?_
                      refine GmT.p' 20 67 (.slice A24 y23.length cp25) (by kernel_rfl) (by kernel_rfl) ?_
                      refine GmT.p' 21 68 (.int .i64 a1) (by kernel_rfl) (by kernel_rfl) ?_
                      refine GmT.p' 24 71 (.slice A12 y11.length cp13) (by kernel_rfl) (by kernel_rfl) ?_
                      refine GmT.p' 25 72 (.int .i64 a1) (by kernel_rfl) (by kernel_rfl) ?_
                      obtain ⟨hg63, h1⟩ := guardS h1
                      obtain ⟨g64, hA65, hr66, hl67⟩ := ownS_get (hI.mono (pick2 _ _ _)) hg63.1 hg63.2
                      refine GmT.r (i := 22) 2 (by kernel_rfl) (by kernel_rfl) (Yl.indexSlice (d := 69) (T := 32) (cc := cp25) (k := .i64) (j := a1) (g := g64) (o := 0) (by kernel_rfl) Go.Proofs.Try.underlying32 ty29 hA65 hg63.1 hg63.2) hI ?_
                      refine GmT.r (i := 23) 2 (by kernel_rfl) (by kernel_rfl) (Yl.load (d := 70) (T := 29) (v := .agg (cA (Value.int .u8) (gt y23 a1)).toArray) (by kernel_rfl) (ldRN ty29 (cs := cA (Value.int .u8) (gt y23 a1)) 0 (fun w hC => hr66 w0 w _ (hC.mono (pick2 _ _ _))) ((cA_length _ _).trans ((cA_length _ _).symm.trans hl67)) (whole _ _ ((cA_length _ _).trans ((cA_length _ _).symm.trans hl67))))) hI ?_
                      obtain ⟨hg68, h1⟩ := guardS h1
                      obtain ⟨g69, hA70, hr71, hl72⟩ := ownS_get (hI.mono (pick3 _ _ _ _)) hg68.1 hg68.2
                      refine GmT.r (i := 26) 2 (by kernel_rfl) (by kernel_rfl) (Yl.indexSlice (d := 73) (T := 32) (cc := cp13) (k := .i64) (j := a1) (g := g69) (o := 0) (by kernel_rfl) Go.Proofs.Try.underlying32 ty29 hA70 hg68.1 hg68.2) hI ?_
                      refine GmT.r (i := 27) 2 (by kernel_rfl) (by kernel_rfl) (Yl.load (d := 74) (T := 29) (v := .agg (cA (Value.int .u8) (gt y11 a1)).toArray) (by kernel_rfl) (ldRN ty29 (cs := cA (Value.int .u8) (gt y11 a1)) 0 (fun w hC => hr71 w0 w _ (hC.mono (pick3 _ _ _ _))) ((cA_length _ _).trans ((cA_length _ _).symm.trans hl72)) (whole _ _ ((cA_length _ _).trans ((cA_length _ _).symm.trans hl72))))) hI ?_
                      refine GmT.r (i := 28) 2 (by kernel_rfl) (by kernel_rfl) (Yl.eqlA (k := .u8) (d := 75) (T := 29) (xs := gt y23 a1) (ys := gt y11 a1) (by kernel_rfl) Go.Proofs.Try.underlying29 (by kernel_rfl) Go.Proofs.Try.underlying5 ty5 ((cA_length _ _).symm.trans hl67) ((cA_length _ _).symm.trans hl72)) hI ?_
                      refine GmT.p' 29 76 (.bool (eqA (gt y23 a1) (gt y11 a1))) (by kernel_rfl) (by kernel_rfl) ?_
                      refine GmT.p' 30 77 (.bool (eqA (gt y23 a1) (gt y11 a1))) (by kernel_rfl) (by kernel_rfl) ?_
                      by_cases hb73 : (eqA (gt y23 a1) (gt y11 a1)) = true
                      · rw [if_pos hb73] at h1
                        refine GmT.keep [1, 7, 9, 77] (S' := [(1, .int .i64 a1), (7, .slice A12 y11.length cp13), (9, .pointer (some ⟨b26, 0, none⟩)), (77, .bool true)]) (by simp only [hb73]; kernel_rfl) ?_
                        refine GmT.p' 32 79 (.slice A12 y11.length cp13) (by kernel_rfl) (by kernel_rfl) ?_
                        refine GmT.p' 33 80 (.int .i64 a1) (by kernel_rfl) (by kernel_rfl) ?_
                        refine GmT.r (i := 31) 2 (by kernel_rfl) (by kernel_rfl) (Yl.load (d := 78) (T := 29) (v := .agg (cA (Value.int .u8) x27).toArray) (by kernel_rfl) (ldBN ty29 (l := cA (Value.int .u8) x27) (o := 0) (cs := cA (Value.int .u8) x27) (ent_refl _) ((cA_length _ _).trans hl28) (whole _ _ ((cA_length _ _).trans hl28)))) hI ?_
                        obtain ⟨hg74, h1⟩ := guardS h1
                        obtain ⟨g75, hA76, hr77, hl78⟩ := ownS_get (hI.mono (pick3 _ _ _ _)) hg74.1 hg74.2
                        refine GmT.r (i := 34) 2 (by kernel_rfl) (by kernel_rfl) (Yl.indexSlice (d := 81) (T := 32) (cc := cp13) (k := .i64) (j := a1) (g := g75) (o := 0) (by kernel_rfl) Go.Proofs.Try.underlying32 ty29 hA76 hg74.1 hg74.2) hI ?_
                        refine GmT.r (i := 35) 2 (by kernel_rfl) (by kernel_rfl) (Yl.load (d := 82) (T := 29) (v := .agg (cA (Value.int .u8) (gt y11 a1)).toArray) (by kernel_rfl) (ldRN ty29 (cs := cA (Value.int .u8) (gt y11 a1)) 0 (fun w hC => hr77 w0 w _ (hC.mono (pick3 _ _ _ _))) ((cA_length _ _).trans ((cA_length _ _).symm.trans hl78)) (whole _ _ ((cA_length _ _).trans ((cA_length _ _).symm.trans hl78))))) hI ?_
                        refine GmT.r (i := 36) 2 (by kernel_rfl) (by kernel_rfl) (Yl.eqlA (k := .u8) (d := 83) (T := 29) (xs := x27) (ys := gt y11 a1) (by kernel_rfl) Go.Proofs.Try.underlying29 (by kernel_rfl) Go.Proofs.Try.underlying5 ty5 hl28 ((cA_length _ _).symm.trans hl78)) hI ?_
                        refine GmT.p' 37 84 (.bool (eqA x27 (gt y11 a1))) (by kernel_rfl) (by kernel_rfl) ?_
                        refine GmT.p' 38 4 (.bool (eqA x27 (gt y11 a1))) (by kernel_rfl) (by kernel_rfl) ?_
                        refine GmT.done (by kernel_rfl) ?_
                        have hI := hI.drop
                        have hI := hI.drop
                        have hI := hI.drop
                        have e := someS h1
                        subst e
                        exact Qn.thenJ fun a ha => ⟨eqA x27 (gt y11 a1), rfl, ha.keep [4] (by kernel_rfl), hI⟩
                      · rw [if_neg hb73] at h1
                        have hb73 : (eqA (gt y23 a1) (gt y11 a1)) = false := by simpa using hb73
                        refine GmT.keep [1, 7, 9, 77] (S' := [(1, .int .i64 a1), (7, .slice A12 y11.length cp13), (9, .pointer (some ⟨b26, 0, none⟩)), (77, .bool false)]) (by simp only [hb73]; kernel_rfl) ?_
                        refine GmT.p' 31 78 (undef) (by kernel_rfl) (by kernel_rfl) ?_
                        refine GmT.p' 32 79 (undef) (by kernel_rfl) (by kernel_rfl) ?_
                        refine GmT.p' 33 80 (undef) (by kernel_rfl) (by kernel_rfl) ?_
                        refine GmT.p' 34 81 (undef) (by kernel_rfl) (by kernel_rfl) ?_
                        refine GmT.p' 35 82 (undef) (by kernel_rfl) (by kernel_rfl) ?_
                        refine GmT.p' 36 83 (undef) (by kernel_rfl) (by kernel_rfl) ?_
                        refine GmT.p' 37 84 (.bool false) (by kernel_rfl) (by kernel_rfl) ?_
                        refine GmT.p' 38 4 (.bool false) (by kernel_rfl) (by kernel_rfl) ?_
                        refine GmT.done (by kernel_rfl) ?_
                        have hI := hI.drop
                        have hI := hI.drop
                        have hI := hI.drop
                        have e := someS h1
                        subst e
                        exact Qn.thenJ fun a ha => ⟨false, rfl, ha.keep [4] (by kernel_rfl), hI⟩
                    · rw [if_neg hb62] at h1
                      have hb62 : ((y23.length : Int) == (wi64 (a1 + 1))) = false := by simpa using hb62
                      refine GmT.keep [1, 7, 8, 9, 66] (S' := [(1, .int .i64 a1), (7, .slice A12 y11.length cp13), (8, .slice A24 y23.length cp25), (9, .pointer (some ⟨b26, 0, none⟩)), (66, .bool false)]) (by simp only [hb62]; kernel_rfl) ?_
                      refine GmT.p' 20 67 (undef) (by kernel_rfl) (by kernel_rfl) ?_
                      refine GmT.p' 21 68 (undef) (by kernel_rfl) (by kernel_rfl) ?_
                      refine GmT.p' 22 69 (undef) (by kernel_rfl) (by kernel_rfl) ?_
                      refine GmT.p' 23 70 (undef) (by kernel_rfl) (by kernel_rfl) ?_
                      refine GmT.p' 24 71 (undef) (by kernel_rfl) (by kernel_rfl) ?_
                      refine GmT.p' 25 72 (undef) (by kernel_rfl) (by kernel_rfl) ?_
                      refine GmT.p' 26 73 (undef) (by kernel_rfl) (by kernel_rfl) ?_
                      refine GmT.p' 27 74 (undef) (by kernel_rfl) (by kernel_rfl) ?_
                      refine GmT.p' 28 75 (undef) (by kernel_rfl) (by kernel_rfl) ?_
                      refine GmT.p' 29 76 (.bool false) (by kernel_rfl) (by kernel_rfl) ?_
                      refine GmT.p' 30 77 (.bool false) (by kernel_rfl) (by kernel_rfl) ?_
                      refine GmT.p' 31 78 (undef) (by kernel_rfl) (by kernel_rfl) ?_
                      refine GmT.p' 32 79 (undef) (by kernel_rfl) (by kernel_rfl) ?_
                      refine GmT.p' 33 80 (undef) (by kernel_rfl) (by kernel_rfl) ?_
                      refine GmT.p' 34 81 (undef) (by kernel_rfl) (by kernel_rfl) ?_
                      refine GmT.p' 35 82 (undef) (by kernel_rfl) (by kernel_rfl) ?_
                      refine GmT.p' 36 83 (undef) (by kernel_rfl) (by kernel_rfl) ?_
                      refine GmT.p' 37 84 (.bool false) (by kernel_rfl) (by kernel_rfl) ?_
                      refine GmT.p' 38 4 (.bool false) (by kernel_rfl) (by kernel_rfl) ?_
                      refine GmT.done (by kernel_rfl) ?_
                      have hI := hI.drop
                      have hI := hI.drop
                      have hI := hI.drop
                      have e := someS h1
                      subst e
                      exact Qn.thenJ fun a ha => ⟨false, rfl, ha.keep [4] (by kernel_rfl), hI⟩
                  · rw [if_neg hb61] at h1
                    have hb61 : ((y11.length : Int) == (wi64 ((a0.length : Int) + 1))) = false := by simpa using hb61
                    refine GmT.keep [1, 7, 8, 9, 59] (S' := [(1, .int .i64 a1), (7, .slice A12 y11.length cp13), (8, .slice A24 y23.length cp25), (9, .pointer (some ⟨b26, 0, none⟩)), (59, .bool false)]) (by simp only [hb61]; kernel_rfl) ?_
                    refine GmT.p' 13 60 (undef) (by kernel_rfl) (by kernel_rfl) ?_
                    refine GmT.p' 14 61 (undef) (by kernel_rfl) (by kernel_rfl) ?_
                    refine GmT.p' 15 62 (undef) (by kernel_rfl) (by kernel_rfl) ?_
                    refine GmT.p' 16 63 (undef) (by kernel_rfl) (by kernel_rfl) ?_
                    refine GmT.p' 17 64 (undef) (by kernel_rfl) (by kernel_rfl) ?_
                    refine GmT.p' 18 65 (.bool false) (by kernel_rfl) (by kernel_rfl) ?_
                    refine GmT.p' 19 66 (.bool false) (by kernel_rfl) (by kernel_rfl) ?_
                    refine GmT.p' 20 67 (undef) (by kernel_rfl) (by kernel_rfl) ?_
                    refine GmT.p' 21 68 (undef) (by kernel_rfl) (by kernel_rfl) ?_
                    refine GmT.p' 22 69 (undef) (by kernel_rfl) (by kernel_rfl) ?_
                    refine GmT.p' 23 70 (undef) (by kernel_rfl) (by kernel_rfl) ?_
                    refine GmT.p' 24 71 (undef) (by kernel_rfl) (by kernel_rfl) ?_
                    refine GmT.p' 25 72 (undef) (by kernel_rfl) (by kernel_rfl) ?_
                    refine GmT.p' 26 73 (undef) (by kernel_rfl) (by kernel_rfl) ?_
                    refine GmT.p' 27 74 (undef) (by kernel_rfl) (by kernel_rfl) ?_
                    refine GmT.p' 28 75 (undef) (by kernel_rfl) (by kernel_rfl) ?_
                    refine GmT.p' 29 76 (.bool false) (by kernel_rfl) (by kernel_rfl) ?_
                    refine GmT.p' 30 77 (.bool false) (by kernel_rfl) (by kernel_rfl) ?_
                    refine GmT.p' 31 78 (undef) (by kernel_rfl) (by kernel_rfl) ?_
                    refine GmT.p' 32 79 (undef) (by kernel_rfl) (by kernel_rfl) ?_
                    refine GmT.p' 33 80 (undef) (by kernel_rfl) (by kernel_rfl) ?_
                    refine GmT.p' 34 81 (undef) (by kernel_rfl) (by kernel_rfl) ?_
                    refine GmT.p' 35 82 (undef) (by kernel_rfl) (by kernel_rfl) ?_
                    refine GmT.p' 36 83 (undef) (by kernel_rfl) (by kernel_rfl) ?_
                    refine GmT.p' 37 84 (.bool false) (by kernel_rfl) (by kernel_rfl) ?_
                    refine GmT.p' 38 4 (.bool false) (by kernel_rfl) (by kernel_rfl) ?_
                    refine GmT.done (by kernel_rfl) ?_
                    have hI := hI.drop
                    have hI := hI.drop
                    have hI := hI.drop
                    have e := someS h1
                    subst e
                    exact Qn.thenJ fun a ha => ⟨false, rfl, ha.keep [4] (by kernel_rfl), hI⟩
                · rw [if_neg hb60] at h1
                  have hb60 : x29 = false := by simpa using hb60
                  refine GmT.keep [0, 1, 7, 8, 9, 51] (S' := [(0, .slice A_a0 a0.length c_a0), (1, .int .i64 a1), (7, .slice A12 y11.length cp13), (8, .slice A24 y23.length cp25), (9, .pointer (some ⟨b26, 0, none⟩)), (51, .bool false)]) (by simp only [hb60]; kernel_rfl) ?_
                  refine GmT.p' 5 52 (undef) (by kernel_rfl) (by kernel_rfl) ?_
                  refine GmT.p' 6 53 (undef) (by kernel_rfl) (by kernel_rfl) ?_
                  refine GmT.p' 7 54 (undef) (by kernel_rfl) (by kernel_rfl) ?_
                  refine GmT.p' 8 55 (undef) (by kernel_rfl) (by kernel_rfl) ?_
                  refine GmT.p' 9 56 (undef) (by kernel_rfl) (by kernel_rfl) ?_
                  refine GmT.p' 10 57 (undef) (by kernel_rfl) (by kernel_rfl) ?_
                  refine GmT.p' 11 58 (.bool false) (by kernel_rfl) (by kernel_rfl) ?_
                  refine GmT.p' 12 59 (.bool false) (by kernel_rfl) (by kernel_rfl) ?_
                  refine GmT.p' 13 60 (undef) (by kernel_rfl) (by kernel_rfl) ?_
                  refine GmT.p' 14 61 (undef) (by kernel_rfl) (by kernel_rfl) ?_
                  refine GmT.p' 15 62 (undef) (by kernel_rfl) (by kernel_rfl) ?_
                  refine GmT.p' 16 63 (undef) (by kernel_rfl) (by kernel_rfl) ?_
                  refine GmT.p' 17 64 (undef) (by kernel_rfl) (by kernel_rfl) ?_
                  refine GmT.p' 18 65 (.bool false) (by kernel_rfl) (by kernel_rfl) ?_
                  refine GmT.p' 19 66 (.bool false) (by kernel_rfl) (by kernel_rfl) ?_
                  refine GmT.p' 20 67 (undef) (by kernel_rfl) (by kernel_rfl) ?_
                  refine GmT.p' 21 68 (undef) (by kernel_rfl) (by kernel_rfl) ?_
                  refine GmT.p' 22 69 (undef) (by kernel_rfl) (by kernel_rfl) ?_
                  refine GmT.p' 23 70 (undef) (by kernel_rfl) (by kernel_rfl) ?_
                  refine GmT.p' 24 71 (undef) (by kernel_rfl) (by kernel_rfl) ?_
                  refine GmT.p' 25 72 (undef) (by kernel_rfl) (by kernel_rfl) ?_
                  refine GmT.p' 26 73 (undef) (by kernel_rfl) (by kernel_rfl) ?_
                  refine GmT.p' 27 74 (undef) (by kernel_rfl) (by kernel_rfl) ?_
                  refine GmT.p' 28 75 (undef) (by kernel_rfl) (by kernel_rfl) ?_
                  refine GmT.p' 29 76 (.bool false) (by kernel_rfl) (by kernel_rfl) ?_
                  refine GmT.p' 30 77 (.bool false) (by kernel_rfl) (by kernel_rfl) ?_
                  refine GmT.p' 31 78 (undef) (by kernel_rfl) (by kernel_rfl) ?_
                  refine GmT.p' 32 79 (undef) (by kernel_rfl) (by kernel_rfl) ?_
                  refine GmT.p' 33 80 (undef) (by kernel_rfl) (by kernel_rfl) ?_
                  refine GmT.p' 34 81 (undef) (by kernel_rfl) (by kernel_rfl) ?_
                  refine GmT.p' 35 82 (undef) (by kernel_rfl) (by kernel_rfl) ?_
                  refine GmT.p' 36 83 (undef) (by kernel_rfl) (by kernel_rfl) ?_
                  refine GmT.p' 37 84 (.bool false) (by kernel_rfl) (by kernel_rfl) ?_
                  refine GmT.p' 38 4 (.bool false) (by kernel_rfl) (by kernel_rfl) ?_
                  refine GmT.done (by kernel_rfl) ?_
                  have hI := hI.drop
                  have hI := hI.drop
                  have hI := hI.drop
                  have e := someS h1
                  subst e
                  exact Qn.thenJ fun a ha => ⟨false, rfl, ha.keep [4] (by kernel_rfl), hI⟩
              · rw [if_neg hb59] at h1
                have hb59 : y2 = false := by simpa using hb59
                refine GmT.keep [0, 1, 7, 8, 9, 10, 48] (S' := [(0, .slice A_a0 a0.length c_a0), (1, .int .i64 a1), (7, .slice A12 y11.length cp13), (8, .slice A24 y23.length cp25), (9, .pointer (some ⟨b26, 0, none⟩)), (10, .bool x29), (48, .bool false)]) (by simp only [hb59]; kernel_rfl) ?_
                refine GmT.p' 2 49 (undef) (by kernel_rfl) (by kernel_rfl) ?_
                refine GmT.p' 3 50 (.bool false) (by kernel_rfl) (by kernel_rfl) ?_
                refine GmT.p' 4 51 (.bool false) (by kernel_rfl) (by kernel_rfl) ?_
                refine GmT.p' 5 52 (undef) (by kernel_rfl) (by kernel_rfl) ?_
                refine GmT.p' 6 53 (undef) (by kernel_rfl) (by kernel_rfl) ?_
                refine GmT.p' 7 54 (undef) (by kernel_rfl) (by kernel_rfl) ?_
                refine GmT.p' 8 55 (undef) (by kernel_rfl) (by kernel_rfl) ?_
                refine GmT.p' 9 56 (undef) (by kernel_rfl) (by kernel_rfl) ?_
                refine GmT.p' 10 57 (undef) (by kernel_rfl) (by kernel_rfl) ?_
                refine GmT.p' 11 58 (.bool false) (by kernel_rfl) (by kernel_rfl) ?_
                refine GmT.p' 12 59 (.bool false) (by kernel_rfl) (by kernel_rfl) ?_
                refine GmT.p' 13 60 (undef) (by kernel_rfl) (by kernel_rfl) ?_
                refine GmT.p' 14 61 (undef) (by kernel_rfl) (by kernel_rfl) ?_
                refine GmT.p' 15 62 (undef) (by kernel_rfl) (by kernel_rfl) ?_
                refine GmT.p' 16 63 (undef) (by kernel_rfl) (by kernel_rfl) ?_
                refine GmT.p' 17 64 (undef) (by kernel_rfl) (by kernel_rfl) ?_
                refine GmT.p' 18 65 (.bool false) (by kernel_rfl) (by kernel_rfl) ?_
                refine GmT.p' 19 66 (.bool false) (by kernel_rfl) (by kernel_rfl) ?_
                refine GmT.p' 20 67 (undef) (by kernel_rfl) (by kernel_rfl) ?_
                refine GmT.p' 21 68 (undef) (by kernel_rfl) (by kernel_rfl) ?_
                refine GmT.p' 22 69 (undef) (by kernel_rfl) (by kernel_rfl) ?_
                refine GmT.p' 23 70 (undef) (by kernel_rfl) (by kernel_rfl) ?_
                refine GmT.p' 24 71 (undef) (by kernel_rfl) (by kernel_rfl) ?_
                refine GmT.p' 25 72 (undef) (by kernel_rfl) (by kernel_rfl) ?_
                refine GmT.p' 26 73 (undef) (by kernel_rfl) (by kernel_rfl) ?_
                refine GmT.p' 27 74 (undef) (by kernel_rfl) (by kernel_rfl) ?_
                refine GmT.p' 28 75 (undef) (by kernel_rfl) (by kernel_rfl) ?_
                refine GmT.p' 29 76 (.bool false) (by kernel_rfl) (by kernel_rfl) ?_
                refine GmT.p' 30 77 (.bool false) (by kernel_rfl) (by kernel_rfl) ?_
                refine GmT.p' 31 78 (undef) (by kernel_rfl) (by kernel_rfl) ?_
                refine GmT.p' 32 79 (undef) (by kernel_rfl) (by kernel_rfl) ?_
                refine GmT.p' 33 80 (undef) (by kernel_rfl) (by kernel_rfl) ?_
                refine GmT.p' 34 81 (undef) (by kernel_rfl) (by kernel_rfl) ?_
                refine GmT.p' 35 82 (undef) (by kernel_rfl) (by kernel_rfl) ?_
                refine GmT.p' 36 83 (undef) (by kernel_rfl) (by kernel_rfl) ?_
                refine GmT.p' 37 84 (.bool false) (by kernel_rfl) (by kernel_rfl) ?_
                refine GmT.p' 38 4 (.bool false) (by kernel_rfl) (by kernel_rfl) ?_
                refine GmT.done (by kernel_rfl) ?_
                have hI := hI.drop
                have hI := hI.drop
                have hI := hI.drop
                have e := someS h1
                subst e
                exact Qn.thenJ fun a ha => ⟨false, rfl, ha.keep [4] (by kernel_rfl), hI⟩
            ·
              rintro a w ⟨x58, rfl, ha, hI⟩
              try dsimp only at h0
              refine CodT.of ?_ ha
              refine CodT.ret ?_
              have e := someS h0
              subst e
              refine Qn.keep [4] (S' := [(4, .bool x58)]) (by kernel_rfl) ?_
              exact post_ret (v := .bool x58) (fun a ha => RunRes.run (vs := [.bool x58]) (.tmp (t := 4) (by kernel_rfl) .nil) ha (by kernel_rfl)) ⟨rfl, hI⟩
end Go.Cen
