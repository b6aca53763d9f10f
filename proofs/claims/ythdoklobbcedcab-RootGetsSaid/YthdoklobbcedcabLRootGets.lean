/- The walk of the law RootGets, printed by a program of ours. -/
import Derived.Test.YthdoklobbcedcabWx4
set_option linter.unusedVariables false
set_option linter.unusedSimpArgs false
namespace Go.Cen
set_option maxRecDepth 100000 in
set_option maxHeartbeats 4000000 in
/-- cenotaph/cenotaphlaw15.RootGets -/
theorem c4 (w0 w : World) (Z : Hp) (A : HP) (hI : Inv w0 Z w A) (A_a0 : Option Addr) (c_a0 : Nat) (a0 : (List ByteArray)) (hr_a0 : RdS Z cS 1 A_a0 c_a0 a0) (r : Bool) (h0 : law15_RootGets a0 = some r) :
    Calls prog 4 #[.slice A_a0 a0.length c_a0] w (fun e w' => e = .returned (.bool r) ∧ Inv w0 Z w' A) := by
  have e4 := calls_intro (R := (fun e w' => e = .returned (.bool r) ∧ Inv w0 Z w' A)) (w := w) (args := [.slice A_a0 a0.length c_a0]) (fn := Go.Proofs.Try.f4) 53 Go.Proofs.Try.func4 (by rfl) Go.Proofs.Try.ntmps4 (by kernel_rfl)
  refine e4 ?_
  clear e4
  unfold law15_RootGets at h0
  refine CodT.seq ?_
  refine CodT.regionL [0] (by kernel_rfl) ?_
  refine OpsT.pures (r := []) [0] [0] (S' := [(0, .slice A_a0 a0.length c_a0)]) (by kernel_rfl) ?_
  refine OpsT.done ?_
  refine Qn.then ?_
  refine CodT.seq ?_
  refine CodT.regionL [0, 1] (by kernel_rfl) ?_
  obtain ⟨y2, hc1, h0⟩ := bindS h0
  try dsimp only at h0
  refine OpsT.cons (Does.call (d := some 10) (n := 10) (vs := []) (by kernel_rfl) en10 (c10 w0 w _ _ hI _ hc1) ?_)
  rintro e w ⟨rfl, hI⟩
  refine ⟨_, rfl, ?_⟩
  refine OpsT.pures (r := []) [1] [0, 3] (S' := [(0, .slice A_a0 a0.length c_a0), (3, .bool y2)]) (by kernel_rfl) ?_
  refine OpsT.done ?_
  refine Qn.then ?_
  refine CodT.seq ?_
  refine CodT.seq ?_
  refine CodT.regionL [0, 1] (by kernel_rfl) ?_
  refine OpsT.pures (r := []) [0, 1] [0, 3, 12] (S' := [(0, .slice A_a0 a0.length c_a0), (3, .bool y2), (12, .bool (!y2))]) (by kernel_rfl) ?_
  refine OpsT.done ?_
  refine Qn.then ?_
  by_cases hb3 : (!y2) = true
  · rw [if_pos hb3] at h0
    refine CodT.yes' (b := !y2) (by kernel_rfl) hb3 ?_
    refine CodT.seq ?_
    refine CodT.regionL [0] (by kernel_rfl) ?_
    refine OpsT.pures (r := []) [0] [2] (S' := [(2, .bool false)]) (by kernel_rfl) ?_
    refine OpsT.done ?_
    refine Qn.then ?_
    refine CodT.ret ?_
    refine Qn.ret_then ?_
    have e := someS h0
    subst e
    refine Qn.keep [2] (S' := [(2, .bool false)]) (by kernel_rfl) ?_
    exact post_ret (v := .bool false) (fun a ha => RunRes.run (vs := [.bool false]) (.tmp (t := 2) (by kernel_rfl) .nil) ha (by kernel_rfl)) ⟨rfl, hI⟩
  · rw [if_neg hb3] at h0
    refine CodT.no' (b := !y2) (by kernel_rfl) (by simpa using hb3) ?_
    refine CodT.skip ?_
    refine Qn.then ?_
    refine CodT.seq ?_
    refine CodT.seq ?_
    refine CodT.regionL [0, 1, 2] (by kernel_rfl) ?_
    refine OpsT.pures (r := []) [0, 1, 2] [0, 3, 15] (S' := [(0, .slice A_a0 a0.length c_a0), (3, .bool y2), (15, .bool (decide ((a0.length : Int) > 60)))]) (by kernel_rfl) ?_
    refine OpsT.done ?_
    refine Qn.then ?_
    by_cases hb4 : (decide ((a0.length : Int) > 60)) = true
    · rw [if_pos hb4] at h0
      refine CodT.yes' (b := decide ((a0.length : Int) > 60)) (by kernel_rfl) hb4 ?_
      refine CodT.seq ?_
      refine CodT.regionL [0, 1] (by kernel_rfl) ?_
      refine OpsT.pures (r := []) [0, 1] [2] (S' := [(2, .bool y2)]) (by kernel_rfl) ?_
      refine OpsT.done ?_
      refine Qn.then ?_
      refine CodT.ret ?_
      refine Qn.ret_then ?_
      have e := someS h0
      subst e
      refine Qn.keep [2] (S' := [(2, .bool y2)]) (by kernel_rfl) ?_
      exact post_ret (v := .bool y2) (fun a ha => RunRes.run (vs := [.bool y2]) (.tmp (t := 2) (by kernel_rfl) .nil) ha (by kernel_rfl)) ⟨rfl, hI⟩
    · rw [if_neg hb4] at h0
      refine CodT.no' (b := decide ((a0.length : Int) > 60)) (by kernel_rfl) (by simpa using hb4) ?_
      refine CodT.skip ?_
      refine Qn.then ?_
      refine CodT.seq ?_
      refine CodT.seq ?_
      refine CodT.regionL [0] (by kernel_rfl) ?_
      refine OpsT.pures (r := []) [0] [0, 3, 4] (S' := [(0, .slice A_a0 a0.length c_a0), (3, .bool y2), (4, .int .i64 0)]) (by kernel_rfl) ?_
      refine OpsT.done ?_
      refine Qn.then ?_
      obtain ⟨r1, h1, h0⟩ := bindS h0
      refine CodT.meet1 (fun a w => .inr () = r1 ∧ Fr 53 [(0, .slice A_a0 a0.length c_a0), (3, .bool y2)] a ∧ Inv w0 Z w A) ?_ ?_
      ·
        refine CodT.block ?_
        refine (fun a ha => wp_loopN (fun k a w => ∃ (x5 : Int), law15_RootGets.l0 a0 y2 k x5 = some r1 ∧ Fr 53 [(0, .slice A_a0 a0.length c_a0), (3, .bool y2), (4, .int .i64 x5)] a ∧ Inv w0 Z w A) ?_ FU a w ⟨0, h1, ha.keep [0, 3, 4] (by kernel_rfl), hI⟩)
        clear h1 hI
        rintro k a w ⟨x5, h1, ha, hI⟩
        rcases k with _ | k
        · cases h1
        simp only [law15_RootGets.l0] at h1
        refine CodT.of ?_ ha
        refine CodT.seq ?_
        refine CodT.seq ?_
        refine CodT.regionL [0, 1, 2, 3] (by kernel_rfl) ?_
        refine OpsT.pures (r := []) [0, 1, 2, 3] [0, 3, 4, 20] (S' := [(0, .slice A_a0 a0.length c_a0), (3, .bool y2), (4, .int .i64 x5), (20, .bool (decide (x5 < (a0.length : Int))))]) (by kernel_rfl) ?_
        refine OpsT.done ?_
        refine Qn.then ?_
        by_cases hb6 : (decide (x5 < (a0.length : Int))) = true
        · rw [if_pos hb6] at h1
          refine CodT.yes' (b := decide (x5 < (a0.length : Int))) (by kernel_rfl) hb6 ?_
          refine CodT.skip ?_
          refine Qn.then ?_
          refine CodT.seq ?_
          refine CodT.block ?_
          refine CodT.seq ?_
          refine CodT.regionL [0, 1, 2, 3, 4, 5] (by kernel_rfl) ?_
          refine OpsT.pures (r := [2, 3, 4, 5]) [0, 1] [0, 3, 4, 23, 24] (S' := [(0, .slice A_a0 a0.length c_a0), (3, .bool y2), (4, .int .i64 x5), (23, .slice A_a0 a0.length c_a0), (24, .int .i64 x5)]) (by kernel_rfl) ?_
          obtain ⟨hg7, h1⟩ := guardS h1
          obtain ⟨g8, o12, hA9, hr10, hl11⟩ := RdS.get hr_a0 hg7.1 hg7.2
          refine OpsT.cons (Does.yi (Yl.indexSlice (d := 25) (T := 36) (cc := c_a0) (k := .i64) (j := x5) (g := g8) (o := o12) (by kernel_rfl) Go.Proofs.Try.underlying36 ty9 hA9 hg7.1 hg7.2) hI ?_)
          refine OpsT.cons (Does.yi (Yl.load (d := 26) (T := 9) (v := .string (gt a0 x5)) (by kernel_rfl) (ldR ty9 (v := .string (gt a0 x5)) 0 (fun w hC => hr10 w0 w _ hC) (by kernel_rfl))) hI ?_)
          refine OpsT.pures (r := []) [4, 5] [0, 3, 4, 28] (S' := [(0, .slice A_a0 a0.length c_a0), (3, .bool y2), (4, .int .i64 x5), (28, .bool (decide (((gt a0 x5).size : Int) > 300)))]) (by kernel_rfl) ?_
          refine OpsT.done ?_
          refine Qn.then ?_
          by_cases hb13 : (decide (((gt a0 x5).size : Int) > 300)) = true
          · rw [if_pos hb13] at h1
            refine CodT.yes' (b := decide (((gt a0 x5).size : Int) > 300)) (by kernel_rfl) hb13 ?_
            refine CodT.seq ?_
            refine CodT.regionL [0, 1] (by kernel_rfl) ?_
            refine OpsT.pures (r := []) [0, 1] [2] (S' := [(2, .bool y2)]) (by kernel_rfl) ?_
            refine OpsT.done ?_
            refine Qn.then ?_
            refine CodT.ret ?_
            refine Qn.block_ret ?_
            refine Qn.ret_then ?_
            refine Qn.ret_then ?_
            refine Qn.block_ret ?_
            refine Qn.ret_then ?_
            refine Qn.ret_then ?_
            have e := someS h1
            subst e
            try dsimp only at h0
            have e := someS h0
            subst e
            refine Qn.keep [2] (S' := [(2, .bool y2)]) (by kernel_rfl) ?_
            exact post_ret (v := .bool y2) (fun a ha => RunRes.run (vs := [.bool y2]) (.tmp (t := 2) (by kernel_rfl) .nil) ha (by kernel_rfl)) ⟨rfl, hI⟩
          · rw [if_neg hb13] at h1
            refine CodT.no' (b := decide (((gt a0 x5).size : Int) > 300)) (by kernel_rfl) (by simpa using hb13) ?_
            refine CodT.skip ?_
            refine Qn.block_normal ?_
            refine Qn.then ?_
            refine CodT.regionL [0, 1, 2] (by kernel_rfl) ?_
            refine OpsT.pures (r := []) [0, 1, 2] [0, 3, 4] (S' := [(0, .slice A_a0 a0.length c_a0), (3, .bool y2), (4, .int .i64 (wi64 (x5 + 1)))]) (by kernel_rfl) ?_
            refine OpsT.done ?_
            exact Qn.thenJ fun a ha => ⟨k, Nat.lt_succ_self k, wi64 (x5 + 1), h1, ha.keep [0, 3, 4] (by kernel_rfl), hI⟩
        · rw [if_neg hb6] at h1
          refine CodT.no' (b := decide (x5 < (a0.length : Int))) (by kernel_rfl) (by simpa using hb6) ?_
          refine CodT.exit ?_
          refine Qn.exit_then ?_
          refine Qn.exit_then ?_
          refine Qn.block ?_
          have e := someS h1
          subst e
          exact Qn.thenJ fun a ha => ⟨rfl, ha.keep [0, 3] (by kernel_rfl), hI⟩
      ·
        rintro a w ⟨rfl, ha, hI⟩
        try dsimp only at h0
        refine Qn.of ?_ ha
        refine Qn.then ?_
        refine CodT.seq ?_
        refine CodT.regionL [0, 1, 2, 3, 4, 5, 6, 7] (by kernel_rfl) ?_
        refine OpsT.pures (r := [1, 2, 3, 4, 5, 6, 7]) [0] [0, 3, 31] (S' := [(0, .slice A_a0 a0.length c_a0), (3, .bool y2), (31, .slice A_a0 a0.length c_a0)]) (by kernel_rfl) ?_
        obtain ⟨⟨y15, y19, y23⟩, hc14, h0⟩ := bindS h0
        try dsimp only at h0
        refine OpsT.cons (Does.call (d := some 32) (n := 19) (vs := [.slice A_a0 a0.length c_a0]) (by kernel_rfl) en19 (c19 w0 w _ _ hI A_a0 c_a0 a0 hr_a0 _ hc14) ?_)
        rintro e w ⟨A16, cp17, A20, cp21, Z24, hle25, rfl, hr18, hr22, hI⟩
        refine ⟨_, rfl, ?_⟩
        refine OpsT.pures (r := [5, 6, 7]) [2, 3, 4] [0, 3, 33, 34] (S' := [(0, .slice A_a0 a0.length c_a0), (3, .bool y2), (33, .agg ((([.slice A16 y15.length cp17, .slice A20 y19.length cp21] : List Value))).toArray), (34, .bool y23)]) (by kernel_rfl) ?_
        refine OpsT.cons (Does.allocL (d := 5) (T := 25) ((([.slice none 0 0, .slice none 0 0] : List Value))) (by kernel_rfl) ty25 hI (by kernel_rfl) ?_)
        intro b26 w hI
        refine OpsT.cons (Does.storeLit (T := 25) (b := b26) (o := 0) (v := .agg ((([.slice A16 y15.length cp17, .slice A20 y19.length cp21] : List Value))).toArray) (l := (([.slice none 0 0, .slice none 0 0] : List Value))) (vs := (([.slice A16 y15.length cp17, .slice A20 y19.length cp21] : List Value))) (L' := (([.slice A16 y15.length cp17, .slice A20 y19.length cp21] : List Value))) (by kernel_rfl) ty25 hI (by kernel_rfl) (by kernel_rfl) (by kernel_rfl) (by kernel_rfl) (by kernel_rfl) ?_)
        intro w hI
        refine OpsT.pures (r := []) [7] [0, 3, 5, 6] (S' := [(0, .slice A_a0 a0.length c_a0), (3, .bool y2), (5, .pointer (some ⟨b26, 0, none⟩)), (6, .bool y23)]) (by kernel_rfl) ?_
        refine OpsT.done ?_
        refine Qn.then ?_
        refine CodT.seq ?_
        refine CodT.regionL [0, 1, 2, 3, 4, 5, 6, 7] (by kernel_rfl) ?_
        refine OpsT.pures (r := [1, 2, 3, 4, 5, 6, 7]) [0] [3, 5, 6, 36] (S' := [(3, .bool y2), (5, .pointer (some ⟨b26, 0, none⟩)), (6, .bool y23), (36, .slice A_a0 a0.length c_a0)]) (by kernel_rfl) ?_
        obtain ⟨⟨y28, y32, y36⟩, hc27, h0⟩ := bindS h0
        try dsimp only at h0
        refine OpsT.cons (Does.call (d := some 37) (n := 20) (vs := [.slice A_a0 a0.length c_a0]) (by kernel_rfl) en20 (c20 w0 w _ _ hI A_a0 c_a0 a0 (hr_a0.mono hle25) _ hc27) ?_)
        rintro e w ⟨A29, cp30, A33, cp34, Z37, hle38, rfl, hr31, hr35, hI⟩
        refine ⟨_, rfl, ?_⟩
        refine OpsT.pures (r := [5, 6, 7]) [2, 3, 4] [3, 5, 6, 38, 39] (S' := [(3, .bool y2), (5, .pointer (some ⟨b26, 0, none⟩)), (6, .bool y23), (38, .agg ((([.slice A29 y28.length cp30, .slice A33 y32.length cp34] : List Value))).toArray), (39, .bool y36)]) (by kernel_rfl) ?_
        refine OpsT.cons (Does.allocL (d := 7) (T := 30) ((([.slice none 0 0, .slice none 0 0] : List Value))) (by kernel_rfl) ty30 hI (by kernel_rfl) ?_)
        intro b39 w hI
        refine OpsT.cons (Does.storeLit (T := 30) (b := b39) (o := 0) (v := .agg ((([.slice A29 y28.length cp30, .slice A33 y32.length cp34] : List Value))).toArray) (l := (([.slice none 0 0, .slice none 0 0] : List Value))) (vs := (([.slice A29 y28.length cp30, .slice A33 y32.length cp34] : List Value))) (L' := (([.slice A29 y28.length cp30, .slice A33 y32.length cp34] : List Value))) (by kernel_rfl) ty30 hI (by kernel_rfl) (by kernel_rfl) (by kernel_rfl) (by kernel_rfl) (by kernel_rfl) ?_)
        intro w hI
        refine OpsT.pures (r := []) [7] [3, 5, 6, 7, 8] (S' := [(3, .bool y2), (5, .pointer (some ⟨b26, 0, none⟩)), (6, .bool y23), (7, .pointer (some ⟨b39, 0, none⟩)), (8, .bool y36)]) (by kernel_rfl) ?_
        refine OpsT.done ?_
        refine Qn.then ?_
        refine CodT.seq ?_
        refine CodT.drawI (n := 5) [] (by kernel_rfl) (by kernel_rfl) hI ?_
        intro w hI
        refine GmT.r (i := 0) 2 (by kernel_rfl) (by kernel_rfl) (Yl.load (d := 40) (T := 25) (v := .agg ((([.slice A16 y15.length cp17, .slice A20 y19.length cp21] : List Value))).toArray) (by kernel_rfl) (ldBN ty25 (l := (([.slice A16 y15.length cp17, .slice A20 y19.length cp21] : List Value))) (o := 0) (cs := (([.slice A16 y15.length cp17, .slice A20 y19.length cp21] : List Value))) (pick2 _ _ _) (by kernel_rfl) (whole _ _ (by kernel_rfl)))) hI ?_
        refine GmT.r (i := 2) 2 (by kernel_rfl) (by kernel_rfl) (Yl.load (d := 42) (T := 30) (v := .agg ((([.slice A29 y28.length cp30, .slice A33 y32.length cp34] : List Value))).toArray) (by kernel_rfl) (ldBN ty30 (l := (([.slice A29 y28.length cp30, .slice A33 y32.length cp34] : List Value))) (o := 0) (cs := (([.slice A29 y28.length cp30, .slice A33 y32.length cp34] : List Value))) (ent_refl _) (by kernel_rfl) (whole _ _ (by kernel_rfl)))) hI ?_
        obtain ⟨⟨y41, y44⟩, hc40, h0⟩ := bindS h0
        try dsimp only at h0
        refine GmT.o (i := 1) (by kernel_rfl) (Does.call (d := some 41) (n := 12) (vs := [.agg ((([.slice A16 y15.length cp17, .slice A20 y19.length cp21] : List Value))).toArray]) (by kernel_rfl) en12 (c12 w0 w _ _ hI A16 cp17 y15 (hr18.mono hle38) A20 cp21 y19 (hr22.mono hle38) _ hc40) ?_)
        rintro e w ⟨A42, cp43, A45, cp46, Z48, hle49, rfl, hr47, hI⟩
        refine ⟨_, rfl, ?_⟩
        have hC := hI
        have hC := hC.drop
        have hC := hC.weaken hle49
        refine ⟨fun _ _ => hC, ?_⟩
        obtain ⟨Z50, hle51, hr52, hI⟩ := ownS_freeze hI
        obtain ⟨y54, hc53, h0⟩ := bindS h0
        try dsimp only at h0
        refine GmT.o (i := 3) (by kernel_rfl) (Does.call (d := some 43) (n := 13) (vs := [.agg ((([.slice A42 y41.length cp43, .slice A45 y44.length cp46] : List Value))).toArray, .agg ((([.slice A29 y28.length cp30, .slice A33 y32.length cp34] : List Value))).toArray]) (by kernel_rfl) en13 (c13 w0 w _ _ hI A42 cp43 y41 hr52 A45 cp46 y44 (hr47.mono hle51) A29 cp30 y28 (hr31.mono (Hp.le_trans hle49 hle51)) A33 cp34 y32 (hr35.mono (Hp.le_trans hle49 hle51)) _ hc53) ?_)
        rintro e w ⟨rfl, hI⟩
        refine ⟨_, rfl, ?_⟩
        have hC := hI
        have hC := hC.weaken (Hp.le_trans hle49 hle51)
        refine ⟨fun _ _ => hC, ?_⟩
        refine GmT.p' 4 9 (.bool y54) (by kernel_rfl) (by kernel_rfl) ?_
        refine GmT.done (by kernel_rfl) ?_
        refine Qn.then ?_
        obtain ⟨r1, h1, h0⟩ := bindS h0
        refine CodT.meet (fun a w => ∃ (x55 : Bool), x55 = r1 ∧ Fr 53 [(2, .bool x55)] a ∧ Inv w0 Z50 w A) ?_ ?_
        ·
          refine CodT.regionL [0, 1, 2, 3, 4, 5, 6, 7, 8, 9] (by kernel_rfl) ?_
          refine OpsT.pures (r := [2, 3, 4, 5, 6, 7, 8, 9]) [0, 1] [6, 8, 9, 45] (S' := [(6, .bool y23), (8, .bool y36), (9, .bool y54), (45, .bool y2)]) (by kernel_rfl) ?_
          by_cases hb56 : y2 = true
          · rw [if_pos hb56] at h1
            refine OpsT.keep [6, 8, 9, 45] (S' := [(6, .bool y23), (8, .bool y36), (9, .bool y54), (45, .bool true)]) (by simp only [hb56]; kernel_rfl) ?_
            refine OpsT.pures (r := [5, 6, 7, 8, 9]) [2, 3, 4] [6, 8, 48] (S' := [(6, .bool y23), (8, .bool y36), (48, .bool y54)]) (by kernel_rfl) ?_
            by_cases hb57 : y54 = true
            · rw [if_pos hb57] at h1
              refine OpsT.keep [6, 8, 48] (S' := [(6, .bool y23), (8, .bool y36), (48, .bool true)]) (by simp only [hb57]; kernel_rfl) ?_
              refine OpsT.pures (r := []) [5, 6, 7, 8, 9] [2] (S' := [(2, .bool (y23 == y36))]) (by kernel_rfl) ?_
              refine OpsT.done ?_
              have hI := hI.drop
              have hI := hI.drop
              have e := someS h1
              subst e
              exact Qn.thenJ fun a ha => ⟨y23 == y36, rfl, ha.keep [2] (by kernel_rfl), hI⟩
            · rw [if_neg hb57] at h1
              have hb57 : y54 = false := by simpa using hb57
              refine OpsT.keep [6, 8, 48] (S' := [(6, .bool y23), (8, .bool y36), (48, .bool false)]) (by simp only [hb57]; kernel_rfl) ?_
              refine OpsT.pures (r := []) [5, 6, 7, 8, 9] [2] (S' := [(2, .bool false)]) (by kernel_rfl) ?_
              refine OpsT.done ?_
              have hI := hI.drop
              have hI := hI.drop
              have e := someS h1
              subst e
              exact Qn.thenJ fun a ha => ⟨false, rfl, ha.keep [2] (by kernel_rfl), hI⟩
          · rw [if_neg hb56] at h1
            have hb56 : y2 = false := by simpa using hb56
            refine OpsT.keep [6, 8, 9, 45] (S' := [(6, .bool y23), (8, .bool y36), (9, .bool y54), (45, .bool false)]) (by simp only [hb56]; kernel_rfl) ?_
            refine OpsT.pures (r := []) [2, 3, 4, 5, 6, 7, 8, 9] [2] (S' := [(2, .bool false)]) (by kernel_rfl) ?_
            refine OpsT.done ?_
            have hI := hI.drop
            have hI := hI.drop
            have e := someS h1
            subst e
            exact Qn.thenJ fun a ha => ⟨false, rfl, ha.keep [2] (by kernel_rfl), hI⟩
        ·
          rintro a w ⟨x55, rfl, ha, hI⟩
          try dsimp only at h0
          refine CodT.of ?_ ha
          refine CodT.ret ?_
          have e := someS h0
          subst e
          refine Qn.keep [2] (S' := [(2, .bool x55)]) (by kernel_rfl) ?_
          exact post_ret (v := .bool x55) (fun a ha => RunRes.run (vs := [.bool x55]) (.tmp (t := 2) (by kernel_rfl) .nil) ha (by kernel_rfl)) ⟨rfl, hI.weaken (Hp.le_trans (Hp.le_trans (Hp.le_trans hle25 hle38) hle49) hle51)⟩
end Go.Cen
