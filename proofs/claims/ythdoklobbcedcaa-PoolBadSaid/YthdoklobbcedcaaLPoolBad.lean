/- The walk of the law PoolBad, printed by a program of ours. -/
import Derived.Test.YthdoklobbcedcaaWq2
set_option linter.unusedVariables false
set_option linter.unusedSimpArgs false
namespace Go.Cen
set_option maxRecDepth 100000 in
set_option maxHeartbeats 4000000 in
/-- cenotaph/cenotaphlaw17.PoolBad -/
theorem c13 (w0 w : World) (Z : Hp) (A : HP)  (hI : Inv w0 Z w A) (A_a0 : Option Addr) (c_a0 : Nat) (a0 : (List PoolUse)) (hr_a0 : RdS Z c_PoolUse 5 A_a0 c_a0 a0) (a1 : Int) (r : Bool) (h0 : law17_PoolBad a0 a1 = some r) :
    Calls prog 13 #[.slice A_a0 a0.length c_a0, .int .i64 a1] w (fun e w' => e = .returned (.bool r) ∧ Inv w0 Z w' A) := by
  refine calls_intro (args := [.slice A_a0 a0.length c_a0, .int .i64 a1]) (fn := Go.Proofs.Try.f13) 89 Go.Proofs.Try.func13 (by rfl) Go.Proofs.Try.ntmps13 (by kernel_rfl) ?_
  unfold law17_PoolBad at h0
  refine CodT.seq ?_
  refine CodT.regionL [0] (by kernel_rfl) ?_
  refine OpsT.pures (r := []) [0] [0, 1] (S' := [(0, .slice A_a0 a0.length c_a0), (1, .int .i64 a1)]) (by kernel_rfl) ?_
  refine OpsT.done ?_
  refine Qn.then ?_
  refine CodT.seq ?_
  refine CodT.regionL [0, 1] (by kernel_rfl) ?_
  obtain ⟨y2, hc1, h0⟩ := bindS h0
  try dsimp only at h0
  refine OpsT.cons (Does.call (d := some 12) (n := 24) (vs := []) (by kernel_rfl) en24 (c24 w0 w _ _ hI _ hc1) ?_)
  rintro e w ⟨rfl, hI⟩
  refine ⟨_, rfl, ?_⟩
  refine OpsT.pures (r := []) [1] [0, 1, 5] (S' := [(0, .slice A_a0 a0.length c_a0), (1, .int .i64 a1), (5, .bool y2)]) (by kernel_rfl) ?_
  refine OpsT.done ?_
  refine Qn.then ?_
  refine CodT.seq ?_
  refine CodT.seq ?_
  refine CodT.regionL [0, 1] (by kernel_rfl) ?_
  refine OpsT.pures (r := []) [0, 1] [0, 1, 5, 14] (S' := [(0, .slice A_a0 a0.length c_a0), (1, .int .i64 a1), (5, .bool y2), (14, .bool (!y2))]) (by kernel_rfl) ?_
  refine OpsT.done ?_
  refine Qn.then ?_
  by_cases hb3 : (!y2) = true
  · rw [if_pos hb3] at h0
    refine CodT.yes' (b := !y2) (by kernel_rfl) hb3 ?_
    refine CodT.seq ?_
    refine CodT.regionL [0] (by kernel_rfl) ?_
    refine OpsT.pures (r := []) [0] [4] (S' := [(4, .bool false)]) (by kernel_rfl) ?_
    refine OpsT.done ?_
    refine Qn.then ?_
    refine CodT.ret ?_
    refine Qn.ret_then ?_
    have e := someS h0
    subst e
    refine Qn.keep [4] (S' := [(4, .bool false)]) (by kernel_rfl) ?_
    exact post_ret (v := .bool false) (fun a ha => RunRes.run (vs := [.bool false]) (.tmp (t := 4) (by kernel_rfl) .nil) ha (by kernel_rfl)) ⟨rfl, hI⟩
  · rw [if_neg hb3] at h0
    refine CodT.no' (b := !y2) (by kernel_rfl) (by simpa using hb3) ?_
    refine CodT.skip ?_
    refine Qn.then ?_
    refine CodT.seq ?_
    refine CodT.regionL [0, 1, 2] (by kernel_rfl) ?_
    refine OpsT.pures (r := [1, 2]) [0] [0, 1, 5, 15] (S' := [(0, .slice A_a0 a0.length c_a0), (1, .int .i64 a1), (5, .bool y2), (15, .slice A_a0 a0.length c_a0)]) (by kernel_rfl) ?_
    obtain ⟨y5, hc4, h0⟩ := bindS h0
    try dsimp only at h0
    refine OpsT.cons (Does.call (d := some 16) (n := 25) (vs := [.slice A_a0 a0.length c_a0]) (by kernel_rfl) en25 (c25 w0 w _ _ hI A_a0 c_a0 a0 hr_a0 _ hc4) ?_)
    rintro e w ⟨rfl, hI⟩
    refine ⟨_, rfl, ?_⟩
    refine OpsT.pures (r := []) [2] [0, 1, 5, 6] (S' := [(0, .slice A_a0 a0.length c_a0), (1, .int .i64 a1), (5, .bool y2), (6, .bool y5)]) (by kernel_rfl) ?_
    refine OpsT.done ?_
    refine Qn.then ?_
    refine CodT.seq ?_
    obtain ⟨r1, h1, h0⟩ := bindS h0
    refine CodT.meet (fun a w => ∃ (x6 : Bool), x6 = r1 ∧ Fr 89 [(0, .slice A_a0 a0.length c_a0), (1, .int .i64 a1), (5, .bool y2), (28, .bool x6)] a ∧ Inv w0 Z w A) ?_ ?_
    ·
      refine CodT.regionL [0, 1, 2, 3, 4, 5, 6, 7, 8, 9, 10, 11] (by kernel_rfl) ?_
      refine OpsT.pures (r := [3, 4, 5, 6, 7, 8, 9, 10, 11]) [0, 1, 2] [0, 1, 5, 19] (S' := [(0, .slice A_a0 a0.length c_a0), (1, .int .i64 a1), (5, .bool y2), (19, .bool (!y5))]) (by kernel_rfl) ?_
      by_cases hb7 : (!y5) = true
      · rw [if_pos hb7] at h1
        refine OpsT.keep [0, 1, 5, 19] (S' := [(0, .slice A_a0 a0.length c_a0), (1, .int .i64 a1), (5, .bool y2), (19, .bool true)]) (by simp only [hb7]; kernel_rfl) ?_
        refine OpsT.pures (r := []) [3, 4, 5, 6, 7, 8, 9, 10, 11] [0, 1, 5, 28] (S' := [(0, .slice A_a0 a0.length c_a0), (1, .int .i64 a1), (5, .bool y2), (28, .bool true)]) (by kernel_rfl) ?_
        refine OpsT.done ?_
        have e := someS h1
        subst e
        exact Qn.thenJ fun a ha => ⟨true, rfl, ha.keep [0, 1, 5, 28] (by kernel_rfl), hI⟩
      · rw [if_neg hb7] at h1
        have hb7 : (!y5) = false := by simpa using hb7
        refine OpsT.keep [0, 1, 5, 19] (S' := [(0, .slice A_a0 a0.length c_a0), (1, .int .i64 a1), (5, .bool y2), (19, .bool false)]) (by simp only [hb7]; kernel_rfl) ?_
        refine OpsT.pures (r := [7, 8, 9, 10, 11]) [3, 4, 5, 6] [0, 1, 5, 23] (S' := [(0, .slice A_a0 a0.length c_a0), (1, .int .i64 a1), (5, .bool y2), (23, .bool (decide (a1 < 0)))]) (by kernel_rfl) ?_
        by_cases hb8 : (decide (a1 < 0)) = true
        · rw [if_pos hb8] at h1
          refine OpsT.keep [0, 1, 5, 23] (S' := [(0, .slice A_a0 a0.length c_a0), (1, .int .i64 a1), (5, .bool y2), (23, .bool true)]) (by simp only [hb8]; kernel_rfl) ?_
          refine OpsT.pures (r := []) [7, 8, 9, 10, 11] [0, 1, 5, 28] (S' := [(0, .slice A_a0 a0.length c_a0), (1, .int .i64 a1), (5, .bool y2), (28, .bool true)]) (by kernel_rfl) ?_
          refine OpsT.done ?_
          have e := someS h1
          subst e
          exact Qn.thenJ fun a ha => ⟨true, rfl, ha.keep [0, 1, 5, 28] (by kernel_rfl), hI⟩
        · rw [if_neg hb8] at h1
          have hb8 : (decide (a1 < 0)) = false := by simpa using hb8
          refine OpsT.keep [0, 1, 5, 23] (S' := [(0, .slice A_a0 a0.length c_a0), (1, .int .i64 a1), (5, .bool y2), (23, .bool false)]) (by simp only [hb8]; kernel_rfl) ?_
          refine OpsT.pures (r := []) [7, 8, 9, 10, 11] [0, 1, 5, 28] (S' := [(0, .slice A_a0 a0.length c_a0), (1, .int .i64 a1), (5, .bool y2), (28, .bool (decide (a1 ≥ (a0.length : Int))))]) (by kernel_rfl) ?_
          refine OpsT.done ?_
          have e := someS h1
          subst e
          exact Qn.thenJ fun a ha => ⟨decide (a1 ≥ (a0.length : Int)), rfl, ha.keep [0, 1, 5, 28] (by kernel_rfl), hI⟩
    ·
      rintro a w ⟨x6, rfl, ha, hI⟩
      try dsimp only at h0
      refine CodT.of ?_ ha
      by_cases hb9 : x6 = true
      · rw [if_pos hb9] at h0
        refine CodT.yes' (b := x6) (by kernel_rfl) hb9 ?_
        refine CodT.seq ?_
        refine CodT.regionL [0, 1] (by kernel_rfl) ?_
        refine OpsT.pures (r := []) [0, 1] [4] (S' := [(4, .bool y2)]) (by kernel_rfl) ?_
        refine OpsT.done ?_
        refine Qn.then ?_
        refine CodT.ret ?_
        refine Qn.ret_then ?_
        have e := someS h0
        subst e
        refine Qn.keep [4] (S' := [(4, .bool y2)]) (by kernel_rfl) ?_
        exact post_ret (v := .bool y2) (fun a ha => RunRes.run (vs := [.bool y2]) (.tmp (t := 4) (by kernel_rfl) .nil) ha (by kernel_rfl)) ⟨rfl, hI⟩
      · rw [if_neg hb9] at h0
        refine CodT.no' (b := x6) (by kernel_rfl) (by simpa using hb9) ?_
        refine CodT.skip ?_
        refine Qn.then ?_
        refine CodT.seq ?_
        refine CodT.regionL [0] (by kernel_rfl) ?_
        refine OpsT.pures (r := []) [0] [0, 1, 5, 7] (S' := [(0, .slice A_a0 a0.length c_a0), (1, .int .i64 a1), (5, .bool y2), (7, .slice none 0 0)]) (by kernel_rfl) ?_
        refine OpsT.done ?_
        refine Qn.then ?_
        refine CodT.seq ?_
        refine CodT.regionL [0, 1, 2, 3] (by kernel_rfl) ?_
        refine OpsT.pures (r := [2, 3]) [0, 1] [0, 1, 5, 30, 31] (S' := [(0, .slice A_a0 a0.length c_a0), (1, .int .i64 a1), (5, .bool y2), (30, .slice none 0 0), (31, .slice A_a0 a0.length c_a0)]) (by kernel_rfl) ?_
        have hI := ownS_nil (α := PoolUse) hI 49 c_PoolUse 5
        obtain ⟨hg10, h0⟩ := guardS h0
        refine OpsT.cons (Does.append (d := 32) (t := 35) (tx := 35) (ty := 35) (ys := ([] : List PoolUse)) (zs := a0) (x := .slice A_a0 a0.length c_a0) (by kernel_rfl) Go.Proofs.Try.underlying35 ty49 (by kernel_rfl) hI (src_rd Go.Proofs.Try.underlying35 hI hr_a0 (one_flat _ (fun _ => rfl))) hr_a0.2.2.1 (by unfold LIM at hg10; omega) hg10 ?_)
        intro A11 cp12 w hI
        refine OpsT.pures (r := []) [3] [0, 1, 5, 7] (S' := [(0, .slice A_a0 a0.length c_a0), (1, .int .i64 a1), (5, .bool y2), (7, .slice A11 ((([] : List PoolUse) ++ a0).length) cp12)]) (by kernel_rfl) ?_
        refine OpsT.done ?_
        refine Qn.then ?_
        refine CodT.seq ?_
        refine CodT.regionL [0, 1, 2, 3, 4] (by kernel_rfl) ?_
        refine OpsT.pures (r := [2, 3, 4]) [0, 1] [0, 1, 5, 7, 33, 34] (S' := [(0, .slice A_a0 a0.length c_a0), (1, .int .i64 a1), (5, .bool y2), (7, .slice A11 ((([] : List PoolUse) ++ a0).length) cp12), (33, .slice A11 ((([] : List PoolUse) ++ a0).length) cp12), (34, .int .i64 a1)]) (by kernel_rfl) ?_
        obtain ⟨hg13, h0⟩ := guardS h0
        obtain ⟨g14, hA15, hr16, hl17⟩ := ownS_get hI hg13.1 hg13.2
        refine OpsT.cons (Does.yi (Yl.indexSlice (d := 35) (T := 35) (cc := cp12) (k := .i64) (j := a1) (g := g14) (o := 0) (by kernel_rfl) Go.Proofs.Try.underlying35 ty49 hA15 hg13.1 hg13.2) hI ?_)
        refine OpsT.pures (r := [4]) [3] [0, 1, 5, 7, 36] (S' := [(0, .slice A_a0 a0.length c_a0), (1, .int .i64 a1), (5, .bool y2), (7, .slice A11 ((([] : List PoolUse) ++ a0).length) cp12), (36, .pointer (some ⟨g14, 0 + a1.toNat * 5 + 3, none⟩))]) (by kernel_rfl) ?_
        refine OpsT.cons (Does.storeElem (T := 4) (j := a1) (k := 3) (v := .bool true) (vs := [.bool true]) (PoolUse.mk ((gt (([] : List PoolUse) ++ a0) a1).Next) ((gt (([] : List PoolUse) ++ a0) a1).Live) ((gt (([] : List PoolUse) ++ a0) a1).Worn) true ((gt (([] : List PoolUse) ++ a0) a1).Keep)) (by kernel_rfl) ty4 hA15 hI hg13.1 hg13.2 (by kernel_rfl) (by kernel_rfl) (by kernel_rfl) (by kernel_rfl) (by kernel_rfl) ?_)
        intro w hI
        refine OpsT.keep [0, 1, 5, 7] (S' := [(0, .slice A_a0 a0.length c_a0), (1, .int .i64 a1), (5, .bool y2), (7, .slice A11 ((st (([] : List PoolUse) ++ a0) a1 (PoolUse.mk ((gt (([] : List PoolUse) ++ a0) a1).Next) ((gt (([] : List PoolUse) ++ a0) a1).Live) ((gt (([] : List PoolUse) ++ a0) a1).Worn) true ((gt (([] : List PoolUse) ++ a0) a1).Keep))).length) cp12)]) (by simp only [st_length]; kernel_rfl) ?_
        refine OpsT.done ?_
        refine Qn.then ?_
        refine CodT.seq ?_
        refine CodT.regionL [0, 1, 2] (by kernel_rfl) ?_
        refine OpsT.pures (r := [1, 2]) [0] [1, 5, 7, 37] (S' := [(1, .int .i64 a1), (5, .bool y2), (7, .slice A11 ((st (([] : List PoolUse) ++ a0) a1 (PoolUse.mk ((gt (([] : List PoolUse) ++ a0) a1).Next) ((gt (([] : List PoolUse) ++ a0) a1).Live) ((gt (([] : List PoolUse) ++ a0) a1).Worn) true ((gt (([] : List PoolUse) ++ a0) a1).Keep))).length) cp12), (37, .slice A_a0 a0.length c_a0)]) (by kernel_rfl) ?_
        obtain ⟨y19, hc18, h0⟩ := bindS h0
        try dsimp only at h0
        refine OpsT.cons (Does.call (d := some 38) (n := 28) (vs := [.slice A_a0 a0.length c_a0]) (by kernel_rfl) en28 (c28 w0 w _ _ hI A_a0 c_a0 a0 hr_a0 _ hc18) ?_)
        rintro e w ⟨A20, cp21, rfl, hI⟩
        refine ⟨_, rfl, ?_⟩
        refine OpsT.pures (r := []) [2] [1, 5, 7, 8] (S' := [(1, .int .i64 a1), (5, .bool y2), (7, .slice A11 ((st (([] : List PoolUse) ++ a0) a1 (PoolUse.mk ((gt (([] : List PoolUse) ++ a0) a1).Next) ((gt (([] : List PoolUse) ++ a0) a1).Live) ((gt (([] : List PoolUse) ++ a0) a1).Worn) true ((gt (([] : List PoolUse) ++ a0) a1).Keep))).length) cp12), (8, .slice A20 y19.length cp21)]) (by kernel_rfl) ?_
        refine OpsT.done ?_
        refine Qn.then ?_
        refine CodT.seq ?_
        refine CodT.regionL [0, 1, 2] (by kernel_rfl) ?_
        refine OpsT.pures (r := [1, 2]) [0] [1, 5, 7, 8, 39] (S' := [(1, .int .i64 a1), (5, .bool y2), (7, .slice A11 ((st (([] : List PoolUse) ++ a0) a1 (PoolUse.mk ((gt (([] : List PoolUse) ++ a0) a1).Next) ((gt (([] : List PoolUse) ++ a0) a1).Live) ((gt (([] : List PoolUse) ++ a0) a1).Worn) true ((gt (([] : List PoolUse) ++ a0) a1).Keep))).length) cp12), (8, .slice A20 y19.length cp21), (39, .slice A11 ((st (([] : List PoolUse) ++ a0) a1 (PoolUse.mk ((gt (([] : List PoolUse) ++ a0) a1).Next) ((gt (([] : List PoolUse) ++ a0) a1).Live) ((gt (([] : List PoolUse) ++ a0) a1).Worn) true ((gt (([] : List PoolUse) ++ a0) a1).Keep))).length) cp12)]) (by kernel_rfl) ?_
        have hI := hI.mono (pick2 _ _ _)
        obtain ⟨Z22, hle23, hr24, hI⟩ := ownS_freeze hI
        obtain ⟨y26, hc25, h0⟩ := bindS h0
        try dsimp only at h0
        refine OpsT.cons (Does.call (d := some 40) (n := 28) (vs := [.slice A11 ((st (([] : List PoolUse) ++ a0) a1 (PoolUse.mk ((gt (([] : List PoolUse) ++ a0) a1).Next) ((gt (([] : List PoolUse) ++ a0) a1).Live) ((gt (([] : List PoolUse) ++ a0) a1).Worn) true ((gt (([] : List PoolUse) ++ a0) a1).Keep))).length) cp12]) (by kernel_rfl) en28 (c28 w0 w _ _ hI A11 cp12 (st (([] : List PoolUse) ++ a0) a1 (PoolUse.mk ((gt (([] : List PoolUse) ++ a0) a1).Next) ((gt (([] : List PoolUse) ++ a0) a1).Live) ((gt (([] : List PoolUse) ++ a0) a1).Worn) true ((gt (([] : List PoolUse) ++ a0) a1).Keep))) hr24 _ hc25) ?_)
        rintro e w ⟨A27, cp28, rfl, hI⟩
        refine ⟨_, rfl, ?_⟩
        refine OpsT.pures (r := []) [2] [1, 5, 7, 8, 9] (S' := [(1, .int .i64 a1), (5, .bool y2), (7, .slice A11 ((st (([] : List PoolUse) ++ a0) a1 (PoolUse.mk ((gt (([] : List PoolUse) ++ a0) a1).Next) ((gt (([] : List PoolUse) ++ a0) a1).Live) ((gt (([] : List PoolUse) ++ a0) a1).Worn) true ((gt (([] : List PoolUse) ++ a0) a1).Keep))).length) cp12), (8, .slice A20 y19.length cp21), (9, .slice A27 y26.length cp28)]) (by kernel_rfl) ?_
        refine OpsT.done ?_
        refine Qn.then ?_
        refine CodT.seq ?_
        refine CodT.regionL [0] (by kernel_rfl) ?_
        refine OpsT.pures (r := []) [0] [1, 5, 7, 8, 9, 10] (S' := [(1, .int .i64 a1), (5, .bool y2), (7, .slice A11 ((st (([] : List PoolUse) ++ a0) a1 (PoolUse.mk ((gt (([] : List PoolUse) ++ a0) a1).Next) ((gt (([] : List PoolUse) ++ a0) a1).Live) ((gt (([] : List PoolUse) ++ a0) a1).Worn) true ((gt (([] : List PoolUse) ++ a0) a1).Keep))).length) cp12), (8, .slice A20 y19.length cp21), (9, .slice A27 y26.length cp28), (10, .int .i64 0)]) (by kernel_rfl) ?_
        refine OpsT.done ?_
        refine Qn.then ?_
        refine CodT.seq ?_
        refine CodT.seq ?_
        refine CodT.regionL [0] (by kernel_rfl) ?_
        refine OpsT.pures (r := []) [0] [1, 5, 7, 8, 9, 10, 11] (S' := [(1, .int .i64 a1), (5, .bool y2), (7, .slice A11 ((st (([] : List PoolUse) ++ a0) a1 (PoolUse.mk ((gt (([] : List PoolUse) ++ a0) a1).Next) ((gt (([] : List PoolUse) ++ a0) a1).Live) ((gt (([] : List PoolUse) ++ a0) a1).Worn) true ((gt (([] : List PoolUse) ++ a0) a1).Keep))).length) cp12), (8, .slice A20 y19.length cp21), (9, .slice A27 y26.length cp28), (10, .int .i64 0), (11, .int .i64 0)]) (by kernel_rfl) ?_
        refine OpsT.done ?_
        refine Qn.then ?_
        obtain ⟨r1, h1, h0⟩ := bindS h0
        refine CodT.meet1 (fun a w => ∃ (x29 : Int), .inr x29 = r1 ∧ Fr 89 [(1, .int .i64 a1), (5, .bool y2), (7, .slice A11 ((st (([] : List PoolUse) ++ a0) a1 (PoolUse.mk ((gt (([] : List PoolUse) ++ a0) a1).Next) ((gt (([] : List PoolUse) ++ a0) a1).Live) ((gt (([] : List PoolUse) ++ a0) a1).Worn) true ((gt (([] : List PoolUse) ++ a0) a1).Keep))).length) cp12), (9, .slice A27 y26.length cp28), (10, .int .i64 x29)] a ∧ Inv w0 Z22 w (star (ownS 3 (cI .i64) 1 A27 cp28 y26) A)) ?_ ?_
        ·
          refine CodT.block ?_
          refine (fun a ha => wp_loopN (fun k a w => ∃ (x30 : Int) (x31 : Int), law17_PoolBad.l0 y19 a1 y26 k x30 x31 = some r1 ∧ Fr 89 [(1, .int .i64 a1), (5, .bool y2), (7, .slice A11 ((st (([] : List PoolUse) ++ a0) a1 (PoolUse.mk ((gt (([] : List PoolUse) ++ a0) a1).Next) ((gt (([] : List PoolUse) ++ a0) a1).Live) ((gt (([] : List PoolUse) ++ a0) a1).Worn) true ((gt (([] : List PoolUse) ++ a0) a1).Keep))).length) cp12), (8, .slice A20 y19.length cp21), (9, .slice A27 y26.length cp28), (10, .int .i64 x30), (11, .int .i64 x31)] a ∧ Inv w0 Z22 w (star (ownS 3 (cI .i64) 1 A27 cp28 y26) (star (ownS 3 (cI .i64) 1 A20 cp21 y19) A))) ?_ FU a w ⟨0, 0, h1, ha.keep [1, 5, 7, 8, 9, 10, 11] (by kernel_rfl), hI⟩)
          clear h1 hI
          rintro k a w ⟨x30, x31, h1, ha, hI⟩
          rcases k with _ | k
          · cases h1
          simp only [law17_PoolBad.l0] at h1
          refine CodT.of ?_ ha
          refine CodT.seq ?_
          refine CodT.seq ?_
          refine CodT.regionL [0, 1, 2, 3] (by kernel_rfl) ?_
          refine OpsT.pures (r := []) [0, 1, 2, 3] [1, 5, 7, 8, 9, 10, 11, 44] (S' := [(1, .int .i64 a1), (5, .bool y2), (7, .slice A11 ((st (([] : List PoolUse) ++ a0) a1 (PoolUse.mk ((gt (([] : List PoolUse) ++ a0) a1).Next) ((gt (([] : List PoolUse) ++ a0) a1).Live) ((gt (([] : List PoolUse) ++ a0) a1).Worn) true ((gt (([] : List PoolUse) ++ a0) a1).Keep))).length) cp12), (8, .slice A20 y19.length cp21), (9, .slice A27 y26.length cp28), (10, .int .i64 x30), (11, .int .i64 x31), (44, .bool (decide (x31 < (y19.length : Int))))]) (by kernel_rfl) ?_
          refine OpsT.done ?_
          refine Qn.then ?_
          by_cases hb32 : (decide (x31 < (y19.length : Int))) = true
          · rw [if_pos hb32] at h1
            refine CodT.yes' (b := decide (x31 < (y19.length : Int))) (by kernel_rfl) hb32 ?_
            refine CodT.skip ?_
            refine Qn.then ?_
            obtain ⟨r2, h2, h1⟩ := bindS h1
            refine CodT.meet (fun a w => ∃ (x33 : Int), .inr x33 = r2 ∧ Fr 89 [(1, .int .i64 a1), (5, .bool y2), (7, .slice A11 ((st (([] : List PoolUse) ++ a0) a1 (PoolUse.mk ((gt (([] : List PoolUse) ++ a0) a1).Next) ((gt (([] : List PoolUse) ++ a0) a1).Live) ((gt (([] : List PoolUse) ++ a0) a1).Worn) true ((gt (([] : List PoolUse) ++ a0) a1).Keep))).length) cp12), (8, .slice A20 y19.length cp21), (9, .slice A27 y26.length cp28), (10, .int .i64 x33), (11, .int .i64 x31)] a ∧ Inv w0 Z22 w (star (ownS 3 (cI .i64) 1 A27 cp28 y26) (star (ownS 3 (cI .i64) 1 A20 cp21 y19) A))) ?_ ?_
            ·
              refine CodT.block ?_
              refine CodT.seq ?_
              refine CodT.seq ?_
              refine CodT.regionL [0, 1, 2, 3, 4, 5] (by kernel_rfl) ?_
              refine OpsT.pures (r := [2, 3, 4, 5]) [0, 1] [1, 5, 7, 8, 9, 10, 11, 47, 48] (S' := [(1, .int .i64 a1), (5, .bool y2), (7, .slice A11 ((st (([] : List PoolUse) ++ a0) a1 (PoolUse.mk ((gt (([] : List PoolUse) ++ a0) a1).Next) ((gt (([] : List PoolUse) ++ a0) a1).Live) ((gt (([] : List PoolUse) ++ a0) a1).Worn) true ((gt (([] : List PoolUse) ++ a0) a1).Keep))).length) cp12), (8, .slice A20 y19.length cp21), (9, .slice A27 y26.length cp28), (10, .int .i64 x30), (11, .int .i64 x31), (47, .slice A20 y19.length cp21), (48, .int .i64 x31)]) (by kernel_rfl) ?_
              obtain ⟨hg34, h2⟩ := guardS h2
              obtain ⟨g35, hA36, hr37, hl38⟩ := ownS_get (hI.mono (pick2 _ _ _)) hg34.1 hg34.2
              refine OpsT.cons (Does.yi (Yl.indexSlice (d := 49) (T := 40) (cc := cp21) (k := .i64) (j := x31) (g := g35) (o := 0) (by kernel_rfl) Go.Proofs.Try.underlying40 ty3 hA36 hg34.1 hg34.2) hI ?_)
              refine OpsT.cons (Does.yi (Yl.load (d := 50) (T := 3) (v := .int .i64 (gt y19 x31)) (by kernel_rfl) (ldR ty3 (v := .int .i64 (gt y19 x31)) 0 (fun w hC => hr37 w0 w _ (hC.mono (pick2 _ _ _))) (by kernel_rfl))) hI ?_)
              refine OpsT.pures (r := []) [4, 5] [1, 5, 7, 8, 9, 10, 11, 52] (S' := [(1, .int .i64 a1), (5, .bool y2), (7, .slice A11 ((st (([] : List PoolUse) ++ a0) a1 (PoolUse.mk ((gt (([] : List PoolUse) ++ a0) a1).Next) ((gt (([] : List PoolUse) ++ a0) a1).Live) ((gt (([] : List PoolUse) ++ a0) a1).Worn) true ((gt (([] : List PoolUse) ++ a0) a1).Keep))).length) cp12), (8, .slice A20 y19.length cp21), (9, .slice A27 y26.length cp28), (10, .int .i64 x30), (11, .int .i64 x31), (52, .bool ((gt y19 x31) == a1))]) (by kernel_rfl) ?_
              refine OpsT.done ?_
              refine Qn.then ?_
              by_cases hb39 : ((gt y19 x31) == a1) = true
              · rw [if_pos hb39] at h2
                refine CodT.yes' (b := (gt y19 x31) == a1) (by kernel_rfl) hb39 ?_
                refine CodT.exit ?_
                refine Qn.exit_then ?_
                refine Qn.block ?_
                have e := someS h2
                subst e
                exact Qn.thenJ fun a ha => ⟨x30, rfl, ha.keep [1, 5, 7, 8, 9, 10, 11] (by kernel_rfl), hI⟩
              · rw [if_neg hb39] at h2
                refine CodT.no' (b := (gt y19 x31) == a1) (by kernel_rfl) (by simpa using hb39) ?_
                refine CodT.skip ?_
                refine Qn.then ?_
                refine CodT.seq ?_
                obtain ⟨r3, h3, h2⟩ := bindS h2
                refine CodT.meet (fun a w => ∃ (x40 : Bool), x40 = r3 ∧ Fr 89 [(1, .int .i64 a1), (5, .bool y2), (7, .slice A11 ((st (([] : List PoolUse) ++ a0) a1 (PoolUse.mk ((gt (([] : List PoolUse) ++ a0) a1).Next) ((gt (([] : List PoolUse) ++ a0) a1).Live) ((gt (([] : List PoolUse) ++ a0) a1).Worn) true ((gt (([] : List PoolUse) ++ a0) a1).Keep))).length) cp12), (8, .slice A20 y19.length cp21), (9, .slice A27 y26.length cp28), (10, .int .i64 x30), (11, .int .i64 x31), (67, .bool x40)] a ∧ Inv w0 Z22 w (star (ownS 3 (cI .i64) 1 A27 cp28 y26) (star (ownS 3 (cI .i64) 1 A20 cp21 y19) A))) ?_ ?_
                ·
                  refine CodT.drawI (n := 15) [] (by kernel_rfl) (by kernel_rfl) hI ?_
                  intro w hI
                  refine GmT.p' 0 53 (.int .i64 x30) (by kernel_rfl) (by kernel_rfl) ?_
                  refine GmT.p' 1 54 (.slice A27 y26.length cp28) (by kernel_rfl) (by kernel_rfl) ?_
                  refine GmT.p' 2 55 (.int .i64 (y26.length : Int)) (by kernel_rfl) (by kernel_rfl) ?_
                  refine GmT.p' 3 56 (.bool (decide (x30 ≥ (y26.length : Int)))) (by kernel_rfl) (by kernel_rfl) ?_
                  refine GmT.p' 4 57 (.bool (decide (x30 ≥ (y26.length : Int)))) (by kernel_rfl) (by kernel_rfl) ?_
                  by_cases hb41 : (decide (x30 ≥ (y26.length : Int))) = true
                  · rw [if_pos hb41] at h3
                    refine GmT.keep [1, 5, 7, 8, 9, 10, 11, 57] (S' := [(1, .int .i64 a1), (5, .bool y2), (7, .slice A11 ((st (([] : List PoolUse) ++ a0) a1 (PoolUse.mk ((gt (([] : List PoolUse) ++ a0) a1).Next) ((gt (([] : List PoolUse) ++ a0) a1).Live) ((gt (([] : List PoolUse) ++ a0) a1).Worn) true ((gt (([] : List PoolUse) ++ a0) a1).Keep))).length) cp12), (8, .slice A20 y19.length cp21), (9, .slice A27 y26.length cp28), (10, .int .i64 x30), (11, .int .i64 x31), (57, .bool true)]) (by simp only [hb41]; kernel_rfl) ?_
                    refine GmT.p' 5 58 (undef) (by kernel_rfl) (by kernel_rfl) ?_
                    refine GmT.p' 6 59 (undef) (by kernel_rfl) (by kernel_rfl) ?_
                    refine GmT.p' 7 60 (undef) (by kernel_rfl) (by kernel_rfl) ?_
                    refine GmT.p' 8 61 (undef) (by kernel_rfl) (by kernel_rfl) ?_
                    refine GmT.p' 9 62 (undef) (by kernel_rfl) (by kernel_rfl) ?_
                    refine GmT.p' 10 63 (undef) (by kernel_rfl) (by kernel_rfl) ?_
                    refine GmT.p' 11 64 (undef) (by kernel_rfl) (by kernel_rfl) ?_
                    refine GmT.p' 12 65 (undef) (by kernel_rfl) (by kernel_rfl) ?_
                    refine GmT.p' 13 66 (undef) (by kernel_rfl) (by kernel_rfl) ?_
                    refine GmT.p' 14 67 (.bool true) (by kernel_rfl) (by kernel_rfl) ?_
                    refine GmT.done (by kernel_rfl) ?_
                    have e := someS h3
                    subst e
                    exact Qn.thenJ fun a ha => ⟨true, rfl, ha.keep [1, 5, 7, 8, 9, 10, 11, 67] (by kernel_rfl), hI⟩
                  · rw [if_neg hb41] at h3
                    have hb41 : (decide (x30 ≥ (y26.length : Int))) = false := by simpa using hb41
                    refine GmT.keep [1, 5, 7, 8, 9, 10, 11, 57] (S' := [(1, .int .i64 a1), (5, .bool y2), (7, .slice A11 ((st (([] : List PoolUse) ++ a0) a1 (PoolUse.mk ((gt (([] : List PoolUse) ++ a0) a1).Next) ((gt (([] : List PoolUse) ++ a0) a1).Live) ((gt (([] : List PoolUse) ++ a0) a1).Worn) true ((gt (([] : List PoolUse) ++ a0) a1).Keep))).length) cp12), (8, .slice A20 y19.length cp21), (9, .slice A27 y26.length cp28), (10, .int .i64 x30), (11, .int .i64 x31), (57, .bool false)]) (by simp only [hb41]; kernel_rfl) ?_
                    refine GmT.p' 5 58 (.slice A27 y26.length cp28) (by kernel_rfl) (by kernel_rfl) ?_
                    refine GmT.p' 6 59 (.int .i64 x30) (by kernel_rfl) (by kernel_rfl) ?_
                    refine GmT.p' 9 62 (.slice A20 y19.length cp21) (by kernel_rfl) (by kernel_rfl) ?_
                    refine GmT.p' 10 63 (.int .i64 x31) (by kernel_rfl) (by kernel_rfl) ?_
                    obtain ⟨hg42, h3⟩ := guardS h3
                    obtain ⟨g43, hA44, hr45, hl46⟩ := ownS_get hI hg42.1 hg42.2
                    refine GmT.r (i := 7) 2 (by kernel_rfl) (by kernel_rfl) (Yl.indexSlice (d := 60) (T := 40) (cc := cp28) (k := .i64) (j := x30) (g := g43) (o := 0) (by kernel_rfl) Go.Proofs.Try.underlying40 ty3 hA44 hg42.1 hg42.2) hI ?_
                    refine GmT.r (i := 8) 2 (by kernel_rfl) (by kernel_rfl) (Yl.load (d := 61) (T := 3) (v := .int .i64 (gt y26 x30)) (by kernel_rfl) (ldR ty3 (v := .int .i64 (gt y26 x30)) 0 (fun w hC => hr45 w0 w _ hC) (by kernel_rfl))) hI ?_
                    obtain ⟨hg47, h3⟩ := guardS h3
                    obtain ⟨g48, hA49, hr50, hl51⟩ := ownS_get (hI.mono (pick2 _ _ _)) hg47.1 hg47.2
                    refine GmT.r (i := 11) 2 (by kernel_rfl) (by kernel_rfl) (Yl.indexSlice (d := 64) (T := 40) (cc := cp21) (k := .i64) (j := x31) (g := g48) (o := 0) (by kernel_rfl) Go.Proofs.Try.underlying40 ty3 hA49 hg47.1 hg47.2) hI ?_
                    refine GmT.r (i := 12) 2 (by kernel_rfl) (by kernel_rfl) (Yl.load (d := 65) (T := 3) (v := .int .i64 (gt y19 x31)) (by kernel_rfl) (ldR ty3 (v := .int .i64 (gt y19 x31)) 0 (fun w hC => hr50 w0 w _ (hC.mono (pick2 _ _ _))) (by kernel_rfl))) hI ?_
                    refine GmT.p' 13 66 (.bool ((gt y26 x30) != (gt y19 x31))) (by kernel_rfl) (by kernel_rfl) ?_
                    refine GmT.p' 14 67 (.bool ((gt y26 x30) != (gt y19 x31))) (by kernel_rfl) (by kernel_rfl) ?_
                    refine GmT.done (by kernel_rfl) ?_
                    have e := someS h3
                    subst e
                    exact Qn.thenJ fun a ha => ⟨(gt y26 x30) != (gt y19 x31), rfl, ha.keep [1, 5, 7, 8, 9, 10, 11, 67] (by kernel_rfl), hI⟩
                ·
                  rintro a w ⟨x40, rfl, ha, hI⟩
                  try dsimp only at h2
                  refine CodT.of ?_ ha
                  by_cases hb52 : x40 = true
                  · rw [if_pos hb52] at h2
                    refine CodT.yes' (b := x40) (by kernel_rfl) hb52 ?_
                    refine CodT.seq ?_
                    refine CodT.regionL [0] (by kernel_rfl) ?_
                    refine OpsT.pures (r := []) [0] [4] (S' := [(4, .bool false)]) (by kernel_rfl) ?_
                    refine OpsT.done ?_
                    refine Qn.then ?_
                    refine CodT.ret ?_
                    refine Qn.ret_then ?_
                    refine Qn.block_ret ?_
                    refine Qn.ret_then ?_
                    refine Qn.ret_then ?_
                    refine Qn.block_ret ?_
                    refine Qn.ret_then ?_
                    refine Qn.ret_then ?_
                    have hI := hI.drop
                    have hI := hI.drop
                    have e := someS h2
                    subst e
                    try dsimp only at h1
                    have e := someS h1
                    subst e
                    try dsimp only at h0
                    have e := someS h0
                    subst e
                    refine Qn.keep [4] (S' := [(4, .bool false)]) (by kernel_rfl) ?_
                    exact post_ret (v := .bool false) (fun a ha => RunRes.run (vs := [.bool false]) (.tmp (t := 4) (by kernel_rfl) .nil) ha (by kernel_rfl)) ⟨rfl, hI.weaken hle23⟩
                  · rw [if_neg hb52] at h2
                    refine CodT.no' (b := x40) (by kernel_rfl) (by simpa using hb52) ?_
                    refine CodT.skip ?_
                    refine Qn.then ?_
                    refine CodT.regionL [0, 1, 2] (by kernel_rfl) ?_
                    refine OpsT.pures (r := []) [0, 1, 2] [1, 5, 7, 8, 9, 10, 11] (S' := [(1, .int .i64 a1), (5, .bool y2), (7, .slice A11 ((st (([] : List PoolUse) ++ a0) a1 (PoolUse.mk ((gt (([] : List PoolUse) ++ a0) a1).Next) ((gt (([] : List PoolUse) ++ a0) a1).Live) ((gt (([] : List PoolUse) ++ a0) a1).Worn) true ((gt (([] : List PoolUse) ++ a0) a1).Keep))).length) cp12), (8, .slice A20 y19.length cp21), (9, .slice A27 y26.length cp28), (10, .int .i64 (wi64 (x30 + 1))), (11, .int .i64 x31)]) (by kernel_rfl) ?_
                    refine OpsT.done ?_
                    refine Qn.block_normal ?_
                    have e := someS h2
                    subst e
                    exact Qn.thenJ fun a ha => ⟨wi64 (x30 + 1), rfl, ha.keep [1, 5, 7, 8, 9, 10, 11] (by kernel_rfl), hI⟩
            ·
              rintro a w ⟨x33, rfl, ha, hI⟩
              try dsimp only at h1
              refine CodT.of ?_ ha
              refine CodT.regionL [0, 1, 2] (by kernel_rfl) ?_
              refine OpsT.pures (r := []) [0, 1, 2] [1, 5, 7, 8, 9, 10, 11] (S' := [(1, .int .i64 a1), (5, .bool y2), (7, .slice A11 ((st (([] : List PoolUse) ++ a0) a1 (PoolUse.mk ((gt (([] : List PoolUse) ++ a0) a1).Next) ((gt (([] : List PoolUse) ++ a0) a1).Live) ((gt (([] : List PoolUse) ++ a0) a1).Worn) true ((gt (([] : List PoolUse) ++ a0) a1).Keep))).length) cp12), (8, .slice A20 y19.length cp21), (9, .slice A27 y26.length cp28), (10, .int .i64 x33), (11, .int .i64 (wi64 (x31 + 1)))]) (by kernel_rfl) ?_
              refine OpsT.done ?_
              exact Qn.thenJ fun a ha => ⟨k, Nat.lt_succ_self k, x33, wi64 (x31 + 1), h1, ha.keep [1, 5, 7, 8, 9, 10, 11] (by kernel_rfl), hI⟩
          · rw [if_neg hb32] at h1
            refine CodT.no' (b := decide (x31 < (y19.length : Int))) (by kernel_rfl) (by simpa using hb32) ?_
            refine CodT.exit ?_
            refine Qn.exit_then ?_
            refine Qn.exit_then ?_
            refine Qn.block ?_
            have hI := hI.mono (pick2 _ _ _)
            have hI := hI.drop
            have e := someS h1
            subst e
            exact Qn.thenJ fun a ha => ⟨x30, rfl, ha.keep [1, 5, 7, 9, 10] (by kernel_rfl), hI⟩
        ·
          rintro a w ⟨x29, rfl, ha, hI⟩
          try dsimp only at h0
          refine Qn.of ?_ ha
          refine Qn.then ?_
          obtain ⟨r1, h1, h0⟩ := bindS h0
          refine CodT.meet (fun a w => ∃ (x53 : Bool), x53 = r1 ∧ Fr 89 [(4, .bool x53)] a ∧ Inv w0 Z22 w A) ?_ ?_
          ·
            refine CodT.regionL [0, 1, 2, 3, 4, 5, 6, 7, 8, 9, 10, 11, 12, 13, 14, 15, 16, 17, 18, 19] (by kernel_rfl) ?_
            refine OpsT.pures (r := [2, 3, 4, 5, 6, 7, 8, 9, 10, 11, 12, 13, 14, 15, 16, 17, 18, 19]) [0, 1] [1, 7, 9, 10, 71] (S' := [(1, .int .i64 a1), (7, .slice A11 ((st (([] : List PoolUse) ++ a0) a1 (PoolUse.mk ((gt (([] : List PoolUse) ++ a0) a1).Next) ((gt (([] : List PoolUse) ++ a0) a1).Live) ((gt (([] : List PoolUse) ++ a0) a1).Worn) true ((gt (([] : List PoolUse) ++ a0) a1).Keep))).length) cp12), (9, .slice A27 y26.length cp28), (10, .int .i64 x29), (71, .bool y2)]) (by kernel_rfl) ?_
            by_cases hb54 : y2 = true
            · rw [if_pos hb54] at h1
              refine OpsT.keep [1, 7, 9, 10, 71] (S' := [(1, .int .i64 a1), (7, .slice A11 ((st (([] : List PoolUse) ++ a0) a1 (PoolUse.mk ((gt (([] : List PoolUse) ++ a0) a1).Next) ((gt (([] : List PoolUse) ++ a0) a1).Live) ((gt (([] : List PoolUse) ++ a0) a1).Worn) true ((gt (([] : List PoolUse) ++ a0) a1).Keep))).length) cp12), (9, .slice A27 y26.length cp28), (10, .int .i64 x29), (71, .bool true)]) (by simp only [hb54]; kernel_rfl) ?_
              refine OpsT.pures (r := [8, 9, 10, 11, 12, 13, 14, 15, 16, 17, 18, 19]) [2, 3, 4, 5, 6, 7] [1, 7, 77] (S' := [(1, .int .i64 a1), (7, .slice A11 ((st (([] : List PoolUse) ++ a0) a1 (PoolUse.mk ((gt (([] : List PoolUse) ++ a0) a1).Next) ((gt (([] : List PoolUse) ++ a0) a1).Live) ((gt (([] : List PoolUse) ++ a0) a1).Worn) true ((gt (([] : List PoolUse) ++ a0) a1).Keep))).length) cp12), (77, .bool (x29 == (y26.length : Int)))]) (by kernel_rfl) ?_
              by_cases hb55 : (x29 == (y26.length : Int)) = true
              · rw [if_pos hb55] at h1
                refine OpsT.keep [1, 7, 77] (S' := [(1, .int .i64 a1), (7, .slice A11 ((st (([] : List PoolUse) ++ a0) a1 (PoolUse.mk ((gt (([] : List PoolUse) ++ a0) a1).Next) ((gt (([] : List PoolUse) ++ a0) a1).Live) ((gt (([] : List PoolUse) ++ a0) a1).Worn) true ((gt (([] : List PoolUse) ++ a0) a1).Keep))).length) cp12), (77, .bool true)]) (by simp only [hb55]; kernel_rfl) ?_
                refine OpsT.pures (r := [9, 10, 11, 12, 13, 14, 15, 16, 17, 18, 19]) [8] [1, 7, 77, 78] (S' := [(1, .int .i64 a1), (7, .slice A11 ((st (([] : List PoolUse) ++ a0) a1 (PoolUse.mk ((gt (([] : List PoolUse) ++ a0) a1).Next) ((gt (([] : List PoolUse) ++ a0) a1).Live) ((gt (([] : List PoolUse) ++ a0) a1).Worn) true ((gt (([] : List PoolUse) ++ a0) a1).Keep))).length) cp12), (77, .bool true), (78, .slice A11 ((st (([] : List PoolUse) ++ a0) a1 (PoolUse.mk ((gt (([] : List PoolUse) ++ a0) a1).Next) ((gt (([] : List PoolUse) ++ a0) a1).Live) ((gt (([] : List PoolUse) ++ a0) a1).Worn) true ((gt (([] : List PoolUse) ++ a0) a1).Keep))).length) cp12)]) (by kernel_rfl) ?_
                obtain ⟨y57, hc56, h1⟩ := bindS h1
                try dsimp only at h1
                refine OpsT.cons (Does.call (d := some 79) (n := 32) (vs := [.slice A11 ((st (([] : List PoolUse) ++ a0) a1 (PoolUse.mk ((gt (([] : List PoolUse) ++ a0) a1).Next) ((gt (([] : List PoolUse) ++ a0) a1).Live) ((gt (([] : List PoolUse) ++ a0) a1).Worn) true ((gt (([] : List PoolUse) ++ a0) a1).Keep))).length) cp12, .int .i64 8]) (by kernel_rfl) en32 (c32 w0 w _ _ hI A11 cp12 (st (([] : List PoolUse) ++ a0) a1 (PoolUse.mk ((gt (([] : List PoolUse) ++ a0) a1).Next) ((gt (([] : List PoolUse) ++ a0) a1).Live) ((gt (([] : List PoolUse) ++ a0) a1).Worn) true ((gt (([] : List PoolUse) ++ a0) a1).Keep))) hr24 8 _ hc56) ?_)
                rintro e w ⟨rfl, hI⟩
                refine ⟨_, rfl, ?_⟩
                refine OpsT.pures (r := [14, 15, 16, 17, 18, 19]) [10, 11, 12, 13] [1, 7, 83] (S' := [(1, .int .i64 a1), (7, .slice A11 ((st (([] : List PoolUse) ++ a0) a1 (PoolUse.mk ((gt (([] : List PoolUse) ++ a0) a1).Next) ((gt (([] : List PoolUse) ++ a0) a1).Live) ((gt (([] : List PoolUse) ++ a0) a1).Worn) true ((gt (([] : List PoolUse) ++ a0) a1).Keep))).length) cp12), (83, .bool (y57 != a1))]) (by kernel_rfl) ?_
                by_cases hb58 : (y57 != a1) = true
                · rw [if_pos hb58] at h1
                  refine OpsT.keep [1, 7, 83] (S' := [(1, .int .i64 a1), (7, .slice A11 ((st (([] : List PoolUse) ++ a0) a1 (PoolUse.mk ((gt (([] : List PoolUse) ++ a0) a1).Next) ((gt (([] : List PoolUse) ++ a0) a1).Live) ((gt (([] : List PoolUse) ++ a0) a1).Worn) true ((gt (([] : List PoolUse) ++ a0) a1).Keep))).length) cp12), (83, .bool true)]) (by simp only [hb58]; kernel_rfl) ?_
                  refine OpsT.pures (r := [15, 16, 17, 18, 19]) [14] [1, 83, 84] (S' := [(1, .int .i64 a1), (83, .bool true), (84, .slice A11 ((st (([] : List PoolUse) ++ a0) a1 (PoolUse.mk ((gt (([] : List PoolUse) ++ a0) a1).Next) ((gt (([] : List PoolUse) ++ a0) a1).Live) ((gt (([] : List PoolUse) ++ a0) a1).Worn) true ((gt (([] : List PoolUse) ++ a0) a1).Keep))).length) cp12)]) (by kernel_rfl) ?_
                  obtain ⟨y60, hc59, h1⟩ := bindS h1
                  try dsimp only at h1
                  refine OpsT.cons (Does.call (d := some 85) (n := 36) (vs := [.slice A11 ((st (([] : List PoolUse) ++ a0) a1 (PoolUse.mk ((gt (([] : List PoolUse) ++ a0) a1).Next) ((gt (([] : List PoolUse) ++ a0) a1).Live) ((gt (([] : List PoolUse) ++ a0) a1).Worn) true ((gt (([] : List PoolUse) ++ a0) a1).Keep))).length) cp12]) (by kernel_rfl) en36 (c36 w0 w _ _ hI A11 cp12 (st (([] : List PoolUse) ++ a0) a1 (PoolUse.mk ((gt (([] : List PoolUse) ++ a0) a1).Next) ((gt (([] : List PoolUse) ++ a0) a1).Live) ((gt (([] : List PoolUse) ++ a0) a1).Worn) true ((gt (([] : List PoolUse) ++ a0) a1).Keep))) hr24 _ hc59) ?_)
                  rintro e w ⟨rfl, hI⟩
                  refine ⟨_, rfl, ?_⟩
                  refine OpsT.pures (r := []) [16, 17, 18, 19] [4] (S' := [(4, .bool (y60 != a1))]) (by kernel_rfl) ?_
                  refine OpsT.done ?_
                  have hI := hI.drop
                  have e := someS h1
                  subst e
                  exact Qn.thenJ fun a ha => ⟨y60 != a1, rfl, ha.keep [4] (by kernel_rfl), hI⟩
                · rw [if_neg hb58] at h1
                  have hb58 : (y57 != a1) = false := by simpa using hb58
                  refine OpsT.keep [1, 7, 83] (S' := [(1, .int .i64 a1), (7, .slice A11 ((st (([] : List PoolUse) ++ a0) a1 (PoolUse.mk ((gt (([] : List PoolUse) ++ a0) a1).Next) ((gt (([] : List PoolUse) ++ a0) a1).Live) ((gt (([] : List PoolUse) ++ a0) a1).Worn) true ((gt (([] : List PoolUse) ++ a0) a1).Keep))).length) cp12), (83, .bool false)]) (by simp only [hb58]; kernel_rfl) ?_
                  refine OpsT.pures (r := []) [14, 15, 16, 17, 18, 19] [4] (S' := [(4, .bool false)]) (by kernel_rfl) ?_
                  refine OpsT.done ?_
                  have hI := hI.drop
                  have e := someS h1
                  subst e
                  exact Qn.thenJ fun a ha => ⟨false, rfl, ha.keep [4] (by kernel_rfl), hI⟩
              · rw [if_neg hb55] at h1
                have hb55 : (x29 == (y26.length : Int)) = false := by simpa using hb55
                refine OpsT.keep [1, 7, 77] (S' := [(1, .int .i64 a1), (7, .slice A11 ((st (([] : List PoolUse) ++ a0) a1 (PoolUse.mk ((gt (([] : List PoolUse) ++ a0) a1).Next) ((gt (([] : List PoolUse) ++ a0) a1).Live) ((gt (([] : List PoolUse) ++ a0) a1).Worn) true ((gt (([] : List PoolUse) ++ a0) a1).Keep))).length) cp12), (77, .bool false)]) (by simp only [hb55]; kernel_rfl) ?_
                refine OpsT.pures (r := []) [8, 9, 10, 11, 12, 13, 14, 15, 16, 17, 18, 19] [4] (S' := [(4, .bool false)]) (by kernel_rfl) ?_
                refine OpsT.done ?_
                have hI := hI.drop
                have e := someS h1
                subst e
                exact Qn.thenJ fun a ha => ⟨false, rfl, ha.keep [4] (by kernel_rfl), hI⟩
            · rw [if_neg hb54] at h1
              have hb54 : y2 = false := by simpa using hb54
              refine OpsT.keep [1, 7, 9, 10, 71] (S' := [(1, .int .i64 a1), (7, .slice A11 ((st (([] : List PoolUse) ++ a0) a1 (PoolUse.mk ((gt (([] : List PoolUse) ++ a0) a1).Next) ((gt (([] : List PoolUse) ++ a0) a1).Live) ((gt (([] : List PoolUse) ++ a0) a1).Worn) true ((gt (([] : List PoolUse) ++ a0) a1).Keep))).length) cp12), (9, .slice A27 y26.length cp28), (10, .int .i64 x29), (71, .bool false)]) (by simp only [hb54]; kernel_rfl) ?_
              refine OpsT.pures (r := []) [2, 3, 4, 5, 6, 7, 8, 9, 10, 11, 12, 13, 14, 15, 16, 17, 18, 19] [4] (S' := [(4, .bool false)]) (by kernel_rfl) ?_
              refine OpsT.done ?_
              have hI := hI.drop
              have e := someS h1
              subst e
              exact Qn.thenJ fun a ha => ⟨false, rfl, ha.keep [4] (by kernel_rfl), hI⟩
          ·
            rintro a w ⟨x53, rfl, ha, hI⟩
            try dsimp only at h0
            refine CodT.of ?_ ha
            refine CodT.ret ?_
            have e := someS h0
            subst e
            refine Qn.keep [4] (S' := [(4, .bool x53)]) (by kernel_rfl) ?_
            exact post_ret (v := .bool x53) (fun a ha => RunRes.run (vs := [.bool x53]) (.tmp (t := 4) (by kernel_rfl) .nil) ha (by kernel_rfl)) ⟨rfl, hI.weaken hle23⟩
end Go.Cen
