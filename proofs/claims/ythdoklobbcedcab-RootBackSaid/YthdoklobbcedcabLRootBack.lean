/- The walk of the law RootBack, printed by a program of ours. -/
import Derived.Test.YthdoklobbcedcabWx4
set_option linter.unusedVariables false
set_option linter.unusedSimpArgs false
namespace Go.Cen
set_option maxRecDepth 100000 in
set_option maxHeartbeats 4000000 in
/-- cenotaph/cenotaphlaw15.RootBack -/
theorem c5 (w0 w : World) (Z : Hp) (A : HP) (hI : Inv w0 Z w A) (A_a0_Map : Option Addr) (c_a0_Map : Nat) (a0_Map : (List RootEntry)) (hr_a0_Map : RdS Z c_RootEntry 4 A_a0_Map c_a0_Map a0_Map) (A_a0_Gone : Option Addr) (c_a0_Gone : Nat) (a0_Gone : (List Int)) (hr_a0_Gone : RdS Z (cI .i64) 1 A_a0_Gone c_a0_Gone a0_Gone) (a1 : Int) (a2 : Int) (r : Bool) (h0 : law15_RootBack a0_Map a0_Gone a1 a2 = some r) :
    Calls prog 5 #[.agg ((([.slice A_a0_Map a0_Map.length c_a0_Map, .slice A_a0_Gone a0_Gone.length c_a0_Gone] : List Value))).toArray, .int .i64 a1, .int .i64 a2] w (fun e w' => e = .returned (.bool r) ∧ Inv w0 Z w' A) := by
  have e4 := calls_intro (R := (fun e w' => e = .returned (.bool r) ∧ Inv w0 Z w' A)) (w := w) (args := [.agg ((([.slice A_a0_Map a0_Map.length c_a0_Map, .slice A_a0_Gone a0_Gone.length c_a0_Gone] : List Value))).toArray, .int .i64 a1, .int .i64 a2]) (fn := Go.Proofs.Try.f5) 154 Go.Proofs.Try.func5 (by rfl) Go.Proofs.Try.ntmps5 (by kernel_rfl)
  refine e4 ?_
  clear e4
  unfold law15_RootBack at h0
  refine CodT.seq ?_
  refine CodT.regionL [0, 1] (by kernel_rfl) ?_
  refine OpsT.cons (Does.boxL (d := 3) (T := 25) (v := .agg ((([.slice A_a0_Map a0_Map.length c_a0_Map, .slice A_a0_Gone a0_Gone.length c_a0_Gone] : List Value))).toArray) ((([.slice A_a0_Map a0_Map.length c_a0_Map, .slice A_a0_Gone a0_Gone.length c_a0_Gone] : List Value))) (by kernel_rfl) hI (by kernel_rfl) ?_)
  intro b1 w hI
  refine OpsT.pures (r := []) [1] [1, 2, 3] (S' := [(1, .int .i64 a1), (2, .int .i64 a2), (3, .pointer (some ⟨b1, 0, none⟩))]) (by kernel_rfl) ?_
  refine OpsT.done ?_
  refine Qn.then ?_
  refine CodT.seq ?_
  refine CodT.regionL [0, 1] (by kernel_rfl) ?_
  obtain ⟨y3, hc2, h0⟩ := bindS h0
  try dsimp only at h0
  refine OpsT.cons (Does.call (d := some 17) (n := 10) (vs := []) (by kernel_rfl) en10 (c10 w0 w _ _ hI _ hc2) ?_)
  rintro e w ⟨rfl, hI⟩
  refine ⟨_, rfl, ?_⟩
  refine OpsT.pures (r := []) [1] [1, 2, 3, 7] (S' := [(1, .int .i64 a1), (2, .int .i64 a2), (3, .pointer (some ⟨b1, 0, none⟩)), (7, .bool y3)]) (by kernel_rfl) ?_
  refine OpsT.done ?_
  refine Qn.then ?_
  refine CodT.seq ?_
  refine CodT.seq ?_
  refine CodT.regionL [0, 1] (by kernel_rfl) ?_
  refine OpsT.pures (r := []) [0, 1] [1, 2, 3, 7, 19] (S' := [(1, .int .i64 a1), (2, .int .i64 a2), (3, .pointer (some ⟨b1, 0, none⟩)), (7, .bool y3), (19, .bool (!y3))]) (by kernel_rfl) ?_
  refine OpsT.done ?_
  refine Qn.then ?_
  by_cases hb4 : (!y3) = true
  · rw [if_pos hb4] at h0
    refine CodT.yes' (b := !y3) (by kernel_rfl) hb4 ?_
    refine CodT.seq ?_
    refine CodT.regionL [0] (by kernel_rfl) ?_
    refine OpsT.pures (r := []) [0] [6] (S' := [(6, .bool false)]) (by kernel_rfl) ?_
    refine OpsT.done ?_
    refine Qn.then ?_
    refine CodT.ret ?_
    refine Qn.ret_then ?_
    have hI := hI.drop
    have e := someS h0
    subst e
    refine Qn.keep [6] (S' := [(6, .bool false)]) (by kernel_rfl) ?_
    exact post_ret (v := .bool false) (fun a ha => RunRes.run (vs := [.bool false]) (.tmp (t := 6) (by kernel_rfl) .nil) ha (by kernel_rfl)) ⟨rfl, hI⟩
  · rw [if_neg hb4] at h0
    refine CodT.no' (b := !y3) (by kernel_rfl) (by simpa using hb4) ?_
    refine CodT.skip ?_
    refine Qn.then ?_
    refine CodT.seq ?_
    refine CodT.regionL [0, 1, 2, 3] (by kernel_rfl) ?_
    refine OpsT.cons (Does.yi (Yl.load (d := 20) (T := 25) (v := .agg ((([.slice A_a0_Map a0_Map.length c_a0_Map, .slice A_a0_Gone a0_Gone.length c_a0_Gone] : List Value))).toArray) (by kernel_rfl) (ldBN ty25 (l := (([.slice A_a0_Map a0_Map.length c_a0_Map, .slice A_a0_Gone a0_Gone.length c_a0_Gone] : List Value))) (o := 0) (cs := (([.slice A_a0_Map a0_Map.length c_a0_Map, .slice A_a0_Gone a0_Gone.length c_a0_Gone] : List Value))) (ent_refl _) (by kernel_rfl) (whole _ _ (by kernel_rfl)))) hI ?_)
    refine OpsT.pures (r := [2, 3]) [1] [1, 2, 3, 7, 20, 21] (S' := [(1, .int .i64 a1), (2, .int .i64 a2), (3, .pointer (some ⟨b1, 0, none⟩)), (7, .bool y3), (20, .agg ((([.slice A_a0_Map a0_Map.length c_a0_Map, .slice A_a0_Gone a0_Gone.length c_a0_Gone] : List Value))).toArray), (21, .int .i64 a1)]) (by kernel_rfl) ?_
    obtain ⟨y6, hc5, h0⟩ := bindS h0
    try dsimp only at h0
    refine OpsT.cons (Does.call (d := some 22) (n := 17) (vs := [.agg ((([.slice A_a0_Map a0_Map.length c_a0_Map, .slice A_a0_Gone a0_Gone.length c_a0_Gone] : List Value))).toArray, .int .i64 a1]) (by kernel_rfl) en17 (c17 w0 w _ _ hI A_a0_Map c_a0_Map a0_Map hr_a0_Map A_a0_Gone c_a0_Gone a0_Gone hr_a0_Gone a1 _ hc5) ?_)
    rintro e w ⟨A7, cp8, rfl, hI⟩
    refine ⟨_, rfl, ?_⟩
    refine OpsT.pures (r := []) [3] [1, 2, 3, 7, 8] (S' := [(1, .int .i64 a1), (2, .int .i64 a2), (3, .pointer (some ⟨b1, 0, none⟩)), (7, .bool y3), (8, .slice A7 y6.length cp8)]) (by kernel_rfl) ?_
    refine OpsT.done ?_
    refine Qn.then ?_
    refine CodT.seq ?_
    obtain ⟨r1, h1, h0⟩ := bindS h0
    refine CodT.meet (fun a w => ∃ (x9 : Bool), x9 = r1 ∧ Fr 154 [(1, .int .i64 a1), (2, .int .i64 a2), (3, .pointer (some ⟨b1, 0, none⟩)), (7, .bool y3), (8, .slice A7 y6.length cp8), (37, .bool x9)] a ∧ Inv w0 Z w (star (pt b1 (.cells ((([.slice A_a0_Map a0_Map.length c_a0_Map, .slice A_a0_Gone a0_Gone.length c_a0_Gone] : List Value))).toArray 25 (0, 0))) (star (ownS 9 cS 1 A7 cp8 y6) A))) ?_ ?_
    ·
      refine CodT.regionL [0, 1, 2, 3, 4, 5, 6, 7, 8, 9, 10, 11, 12, 13, 14] (by kernel_rfl) ?_
      refine OpsT.pures (r := [1, 2, 3, 4, 5, 6, 7, 8, 9, 10, 11, 12, 13, 14]) [0] [1, 2, 3, 7, 8, 23] (S' := [(1, .int .i64 a1), (2, .int .i64 a2), (3, .pointer (some ⟨b1, 0, none⟩)), (7, .bool y3), (8, .slice A7 y6.length cp8), (23, .pointer (some ⟨b1, 0, none⟩))]) (by kernel_rfl) ?_
      refine OpsT.cons (Does.yi (Yl.load (d := 24) (T := 22) (v := .slice A_a0_Map a0_Map.length c_a0_Map) (by kernel_rfl) (ldB ty22 (l := (([.slice A_a0_Map a0_Map.length c_a0_Map, .slice A_a0_Gone a0_Gone.length c_a0_Gone] : List Value))) (o := 0) (v := .slice A_a0_Map a0_Map.length c_a0_Map) (pick2 _ _ _) (by kernel_rfl))) hI ?_)
      refine OpsT.pures (r := [5, 6, 7, 8, 9, 10, 11, 12, 13, 14]) [2, 3, 4] [1, 2, 3, 7, 8, 27] (S' := [(1, .int .i64 a1), (2, .int .i64 a2), (3, .pointer (some ⟨b1, 0, none⟩)), (7, .bool y3), (8, .slice A7 y6.length cp8), (27, .bool (decide ((a0_Map.length : Int) > 60)))]) (by kernel_rfl) ?_
      by_cases hb10 : (decide ((a0_Map.length : Int) > 60)) = true
      · rw [if_pos hb10] at h1
        refine OpsT.keep [1, 2, 3, 7, 8, 27] (S' := [(1, .int .i64 a1), (2, .int .i64 a2), (3, .pointer (some ⟨b1, 0, none⟩)), (7, .bool y3), (8, .slice A7 y6.length cp8), (27, .bool true)]) (by simp only [hb10]; kernel_rfl) ?_
        refine OpsT.pures (r := []) [5, 6, 7, 8, 9, 10, 11, 12, 13, 14] [1, 2, 3, 7, 8, 37] (S' := [(1, .int .i64 a1), (2, .int .i64 a2), (3, .pointer (some ⟨b1, 0, none⟩)), (7, .bool y3), (8, .slice A7 y6.length cp8), (37, .bool true)]) (by kernel_rfl) ?_
        refine OpsT.done ?_
        have hI := hI.mono (pick2 _ _ _)
        have e := someS h1
        subst e
        exact Qn.thenJ fun a ha => ⟨true, rfl, ha.keep [1, 2, 3, 7, 8, 37] (by kernel_rfl), hI⟩
      · rw [if_neg hb10] at h1
        have hb10 : (decide ((a0_Map.length : Int) > 60)) = false := by simpa using hb10
        refine OpsT.keep [1, 2, 3, 7, 8, 27] (S' := [(1, .int .i64 a1), (2, .int .i64 a2), (3, .pointer (some ⟨b1, 0, none⟩)), (7, .bool y3), (8, .slice A7 y6.length cp8), (27, .bool false)]) (by simp only [hb10]; kernel_rfl) ?_
        refine OpsT.pures (r := [6, 7, 8, 9, 10, 11, 12, 13, 14]) [5] [1, 2, 3, 7, 8, 27, 28] (S' := [(1, .int .i64 a1), (2, .int .i64 a2), (3, .pointer (some ⟨b1, 0, none⟩)), (7, .bool y3), (8, .slice A7 y6.length cp8), (27, .bool false), (28, .pointer (some ⟨b1, 1, none⟩))]) (by kernel_rfl) ?_
        refine OpsT.cons (Does.yi (Yl.load (d := 29) (T := 23) (v := .slice A_a0_Gone a0_Gone.length c_a0_Gone) (by kernel_rfl) (ldB ty23 (l := (([.slice A_a0_Map a0_Map.length c_a0_Map, .slice A_a0_Gone a0_Gone.length c_a0_Gone] : List Value))) (o := 1) (v := .slice A_a0_Gone a0_Gone.length c_a0_Gone) (pick2 _ _ _) (by kernel_rfl))) hI ?_)
        refine OpsT.pures (r := [11, 12, 13, 14]) [7, 8, 9, 10] [1, 2, 3, 7, 8, 33] (S' := [(1, .int .i64 a1), (2, .int .i64 a2), (3, .pointer (some ⟨b1, 0, none⟩)), (7, .bool y3), (8, .slice A7 y6.length cp8), (33, .bool (decide ((a0_Gone.length : Int) > 60)))]) (by kernel_rfl) ?_
        by_cases hb11 : (decide ((a0_Gone.length : Int) > 60)) = true
        · rw [if_pos hb11] at h1
          refine OpsT.keep [1, 2, 3, 7, 8, 33] (S' := [(1, .int .i64 a1), (2, .int .i64 a2), (3, .pointer (some ⟨b1, 0, none⟩)), (7, .bool y3), (8, .slice A7 y6.length cp8), (33, .bool true)]) (by simp only [hb11]; kernel_rfl) ?_
          refine OpsT.pures (r := []) [11, 12, 13, 14] [1, 2, 3, 7, 8, 37] (S' := [(1, .int .i64 a1), (2, .int .i64 a2), (3, .pointer (some ⟨b1, 0, none⟩)), (7, .bool y3), (8, .slice A7 y6.length cp8), (37, .bool true)]) (by kernel_rfl) ?_
          refine OpsT.done ?_
          have hI := hI.mono (pick2 _ _ _)
          have e := someS h1
          subst e
          exact Qn.thenJ fun a ha => ⟨true, rfl, ha.keep [1, 2, 3, 7, 8, 37] (by kernel_rfl), hI⟩
        · rw [if_neg hb11] at h1
          have hb11 : (decide ((a0_Gone.length : Int) > 60)) = false := by simpa using hb11
          refine OpsT.keep [1, 2, 3, 7, 8, 33] (S' := [(1, .int .i64 a1), (2, .int .i64 a2), (3, .pointer (some ⟨b1, 0, none⟩)), (7, .bool y3), (8, .slice A7 y6.length cp8), (33, .bool false)]) (by simp only [hb11]; kernel_rfl) ?_
          refine OpsT.pures (r := []) [11, 12, 13, 14] [1, 2, 3, 7, 8, 37] (S' := [(1, .int .i64 a1), (2, .int .i64 a2), (3, .pointer (some ⟨b1, 0, none⟩)), (7, .bool y3), (8, .slice A7 y6.length cp8), (37, .bool ((y6.length : Int) == 0))]) (by kernel_rfl) ?_
          refine OpsT.done ?_
          have hI := hI.mono (pick2 _ _ _)
          have e := someS h1
          subst e
          exact Qn.thenJ fun a ha => ⟨(y6.length : Int) == 0, rfl, ha.keep [1, 2, 3, 7, 8, 37] (by kernel_rfl), hI⟩
    ·
      rintro a w ⟨x9, rfl, ha, hI⟩
      try dsimp only at h0
      refine CodT.of ?_ ha
      by_cases hb12 : x9 = true
      · rw [if_pos hb12] at h0
        refine CodT.yes' (b := x9) (by kernel_rfl) hb12 ?_
        obtain ⟨r1, h1, h0⟩ := bindS h0
        refine CodT.meet (fun a w => ∃ (x13 : Bool), x13 = r1 ∧ Fr 154 [(6, .bool x13)] a ∧ Inv w0 Z w A) ?_ ?_
        ·
          refine CodT.regionL [0, 1, 2, 3, 4, 5, 6, 7, 8, 9, 10, 11, 12, 13, 14, 15, 16, 17, 18, 19, 20, 21, 22, 23, 24, 25, 26] (by kernel_rfl) ?_
          refine OpsT.pures (r := [2, 3, 4, 5, 6, 7, 8, 9, 10, 11, 12, 13, 14, 15, 16, 17, 18, 19, 20, 21, 22, 23, 24, 25, 26]) [0, 1] [1, 3, 39] (S' := [(1, .int .i64 a1), (3, .pointer (some ⟨b1, 0, none⟩)), (39, .bool y3)]) (by kernel_rfl) ?_
          by_cases hb14 : y3 = true
          · rw [if_pos hb14] at h1
            refine OpsT.keep [1, 3, 39] (S' := [(1, .int .i64 a1), (3, .pointer (some ⟨b1, 0, none⟩)), (39, .bool true)]) (by simp only [hb14]; kernel_rfl) ?_
            refine OpsT.pures (r := [3, 4, 5, 6, 7, 8, 9, 10, 11, 12, 13, 14, 15, 16, 17, 18, 19, 20, 21, 22, 23, 24, 25, 26]) [2] [1, 3, 39, 40] (S' := [(1, .int .i64 a1), (3, .pointer (some ⟨b1, 0, none⟩)), (39, .bool true), (40, .pointer (some ⟨b1, 0, none⟩))]) (by kernel_rfl) ?_
            refine OpsT.cons (Does.yi (Yl.load (d := 41) (T := 22) (v := .slice A_a0_Map a0_Map.length c_a0_Map) (by kernel_rfl) (ldB ty22 (l := (([.slice A_a0_Map a0_Map.length c_a0_Map, .slice A_a0_Gone a0_Gone.length c_a0_Gone] : List Value))) (o := 0) (v := .slice A_a0_Map a0_Map.length c_a0_Map) (ent_refl _) (by kernel_rfl))) hI ?_)
            refine OpsT.pures (r := [7, 8, 9, 10, 11, 12, 13, 14, 15, 16, 17, 18, 19, 20, 21, 22, 23, 24, 25, 26]) [4, 5, 6] [1, 3, 39, 44] (S' := [(1, .int .i64 a1), (3, .pointer (some ⟨b1, 0, none⟩)), (39, .bool true), (44, .bool (decide ((a0_Map.length : Int) > 60)))]) (by kernel_rfl) ?_
            by_cases hb15 : (decide ((a0_Map.length : Int) > 60)) = true
            · rw [if_pos hb15] at h1
              refine OpsT.keep [1, 3, 39, 44] (S' := [(1, .int .i64 a1), (3, .pointer (some ⟨b1, 0, none⟩)), (39, .bool true), (44, .bool true)]) (by simp only [hb15]; kernel_rfl) ?_
              refine OpsT.pures (r := []) [7, 8, 9, 10, 11, 12, 13, 14, 15, 16, 17, 18, 19, 20, 21, 22, 23, 24, 25, 26] [6] (S' := [(6, .bool true)]) (by kernel_rfl) ?_
              refine OpsT.done ?_
              have hI := hI.drop
              have hI := hI.drop
              have e := someS h1
              subst e
              exact Qn.thenJ fun a ha => ⟨true, rfl, ha.keep [6] (by kernel_rfl), hI⟩
            · rw [if_neg hb15] at h1
              have hb15 : (decide ((a0_Map.length : Int) > 60)) = false := by simpa using hb15
              refine OpsT.keep [1, 3, 39, 44] (S' := [(1, .int .i64 a1), (3, .pointer (some ⟨b1, 0, none⟩)), (39, .bool true), (44, .bool false)]) (by simp only [hb15]; kernel_rfl) ?_
              refine OpsT.pures (r := [8, 9, 10, 11, 12, 13, 14, 15, 16, 17, 18, 19, 20, 21, 22, 23, 24, 25, 26]) [7] [1, 3, 39, 44, 45] (S' := [(1, .int .i64 a1), (3, .pointer (some ⟨b1, 0, none⟩)), (39, .bool true), (44, .bool false), (45, .pointer (some ⟨b1, 1, none⟩))]) (by kernel_rfl) ?_
              refine OpsT.cons (Does.yi (Yl.load (d := 46) (T := 23) (v := .slice A_a0_Gone a0_Gone.length c_a0_Gone) (by kernel_rfl) (ldB ty23 (l := (([.slice A_a0_Map a0_Map.length c_a0_Map, .slice A_a0_Gone a0_Gone.length c_a0_Gone] : List Value))) (o := 1) (v := .slice A_a0_Gone a0_Gone.length c_a0_Gone) (ent_refl _) (by kernel_rfl))) hI ?_)
              refine OpsT.pures (r := [13, 14, 15, 16, 17, 18, 19, 20, 21, 22, 23, 24, 25, 26]) [9, 10, 11, 12] [1, 3, 39, 50] (S' := [(1, .int .i64 a1), (3, .pointer (some ⟨b1, 0, none⟩)), (39, .bool true), (50, .bool (decide ((a0_Gone.length : Int) > 60)))]) (by kernel_rfl) ?_
              by_cases hb16 : (decide ((a0_Gone.length : Int) > 60)) = true
              · rw [if_pos hb16] at h1
                refine OpsT.keep [1, 3, 39, 50] (S' := [(1, .int .i64 a1), (3, .pointer (some ⟨b1, 0, none⟩)), (39, .bool true), (50, .bool true)]) (by simp only [hb16]; kernel_rfl) ?_
                refine OpsT.pures (r := []) [13, 14, 15, 16, 17, 18, 19, 20, 21, 22, 23, 24, 25, 26] [6] (S' := [(6, .bool true)]) (by kernel_rfl) ?_
                refine OpsT.done ?_
                have hI := hI.drop
                have hI := hI.drop
                have e := someS h1
                subst e
                exact Qn.thenJ fun a ha => ⟨true, rfl, ha.keep [6] (by kernel_rfl), hI⟩
              · rw [if_neg hb16] at h1
                have hb16 : (decide ((a0_Gone.length : Int) > 60)) = false := by simpa using hb16
                refine OpsT.keep [1, 3, 39, 50] (S' := [(1, .int .i64 a1), (3, .pointer (some ⟨b1, 0, none⟩)), (39, .bool true), (50, .bool false)]) (by simp only [hb16]; kernel_rfl) ?_
                refine OpsT.cons (Does.yi (Yl.load (d := 51) (T := 25) (v := .agg ((([.slice A_a0_Map a0_Map.length c_a0_Map, .slice A_a0_Gone a0_Gone.length c_a0_Gone] : List Value))).toArray) (by kernel_rfl) (ldBN ty25 (l := (([.slice A_a0_Map a0_Map.length c_a0_Map, .slice A_a0_Gone a0_Gone.length c_a0_Gone] : List Value))) (o := 0) (cs := (([.slice A_a0_Map a0_Map.length c_a0_Map, .slice A_a0_Gone a0_Gone.length c_a0_Gone] : List Value))) (ent_refl _) (by kernel_rfl) (whole _ _ (by kernel_rfl)))) hI ?_)
                obtain ⟨y18, hc17, h1⟩ := bindS h1
                try dsimp only at h1
                refine OpsT.cons (Does.call (d := some 52) (n := 14) (vs := [.agg ((([.slice A_a0_Map a0_Map.length c_a0_Map, .slice A_a0_Gone a0_Gone.length c_a0_Gone] : List Value))).toArray]) (by kernel_rfl) en14 (c14 w0 w _ _ hI A_a0_Map c_a0_Map a0_Map hr_a0_Map A_a0_Gone c_a0_Gone a0_Gone hr_a0_Gone _ hc17) ?_)
                rintro e w ⟨rfl, hI⟩
                refine ⟨_, rfl, ?_⟩
                refine OpsT.pures (r := [18, 19, 20, 21, 22, 23, 24, 25, 26]) [15, 16, 17] [1, 39, 55] (S' := [(1, .int .i64 a1), (39, .bool true), (55, .bool (!y18))]) (by kernel_rfl) ?_
                by_cases hb19 : (!y18) = true
                · rw [if_pos hb19] at h1
                  refine OpsT.keep [1, 39, 55] (S' := [(1, .int .i64 a1), (39, .bool true), (55, .bool true)]) (by simp only [hb19]; kernel_rfl) ?_
                  refine OpsT.pures (r := []) [18, 19, 20, 21, 22, 23, 24, 25, 26] [6] (S' := [(6, .bool true)]) (by kernel_rfl) ?_
                  refine OpsT.done ?_
                  have hI := hI.drop
                  have hI := hI.drop
                  have e := someS h1
                  subst e
                  exact Qn.thenJ fun a ha => ⟨true, rfl, ha.keep [6] (by kernel_rfl), hI⟩
                · rw [if_neg hb19] at h1
                  have hb19 : (!y18) = false := by simpa using hb19
                  refine OpsT.keep [1, 39, 55] (S' := [(1, .int .i64 a1), (39, .bool true), (55, .bool false)]) (by simp only [hb19]; kernel_rfl) ?_
                  refine OpsT.pures (r := [22, 23, 24, 25, 26]) [18, 19, 20, 21] [1, 39, 59] (S' := [(1, .int .i64 a1), (39, .bool true), (59, .bool (decide (a1 < 8)))]) (by kernel_rfl) ?_
                  by_cases hb20 : (decide (a1 < 8)) = true
                  · rw [if_pos hb20] at h1
                    refine OpsT.keep [1, 39, 59] (S' := [(1, .int .i64 a1), (39, .bool true), (59, .bool true)]) (by simp only [hb20]; kernel_rfl) ?_
                    refine OpsT.pures (r := []) [22, 23, 24, 25, 26] [6] (S' := [(6, .bool true)]) (by kernel_rfl) ?_
                    refine OpsT.done ?_
                    have hI := hI.drop
                    have hI := hI.drop
                    have e := someS h1
                    subst e
                    exact Qn.thenJ fun a ha => ⟨true, rfl, ha.keep [6] (by kernel_rfl), hI⟩
                  · rw [if_neg hb20] at h1
                    have hb20 : (decide (a1 < 8)) = false := by simpa using hb20
                    refine OpsT.keep [1, 39, 59] (S' := [(1, .int .i64 a1), (39, .bool true), (59, .bool false)]) (by simp only [hb20]; kernel_rfl) ?_
                    refine OpsT.pures (r := []) [22, 23, 24, 25, 26] [6] (S' := [(6, .bool (decide (a1 > 224)))]) (by kernel_rfl) ?_
                    refine OpsT.done ?_
                    have hI := hI.drop
                    have hI := hI.drop
                    have e := someS h1
                    subst e
                    exact Qn.thenJ fun a ha => ⟨decide (a1 > 224), rfl, ha.keep [6] (by kernel_rfl), hI⟩
          · rw [if_neg hb14] at h1
            have hb14 : y3 = false := by simpa using hb14
            refine OpsT.keep [1, 3, 39] (S' := [(1, .int .i64 a1), (3, .pointer (some ⟨b1, 0, none⟩)), (39, .bool false)]) (by simp only [hb14]; kernel_rfl) ?_
            refine OpsT.pures (r := []) [2, 3, 4, 5, 6, 7, 8, 9, 10, 11, 12, 13, 14, 15, 16, 17, 18, 19, 20, 21, 22, 23, 24, 25, 26] [6] (S' := [(6, .bool false)]) (by kernel_rfl) ?_
            refine OpsT.done ?_
            have hI := hI.drop
            have hI := hI.drop
            have e := someS h1
            subst e
            exact Qn.thenJ fun a ha => ⟨false, rfl, ha.keep [6] (by kernel_rfl), hI⟩
        ·
          rintro a w ⟨x13, rfl, ha, hI⟩
          try dsimp only at h0
          refine CodT.of ?_ ha
          refine CodT.ret ?_
          refine Qn.ret_then ?_
          have e := someS h0
          subst e
          refine Qn.keep [6] (S' := [(6, .bool x13)]) (by kernel_rfl) ?_
          exact post_ret (v := .bool x13) (fun a ha => RunRes.run (vs := [.bool x13]) (.tmp (t := 6) (by kernel_rfl) .nil) ha (by kernel_rfl)) ⟨rfl, hI⟩
      · rw [if_neg hb12] at h0
        refine CodT.no' (b := x9) (by kernel_rfl) (by simpa using hb12) ?_
        refine CodT.skip ?_
        refine Qn.then ?_
        refine CodT.seq ?_
        refine CodT.regionL [0, 1, 2, 3, 4, 5, 6, 7] (by kernel_rfl) ?_
        refine OpsT.pures (r := [1, 2, 3, 4, 5, 6, 7]) [0] [1, 2, 3, 7, 8, 65] (S' := [(1, .int .i64 a1), (2, .int .i64 a2), (3, .pointer (some ⟨b1, 0, none⟩)), (7, .bool y3), (8, .slice A7 y6.length cp8), (65, .slice A7 y6.length cp8)]) (by kernel_rfl) ?_
        have hI := hI.mono (pick2 _ _ _)
        obtain ⟨Z21, hle22, hr23, hI⟩ := ownS_freeze hI
        obtain ⟨⟨y25, y29, y33⟩, hc24, h0⟩ := bindS h0
        try dsimp only at h0
        refine OpsT.cons (Does.call (d := some 66) (n := 19) (vs := [.slice A7 y6.length cp8]) (by kernel_rfl) en19 (c19 w0 w _ _ hI A7 cp8 y6 hr23 _ hc24) ?_)
        rintro e w ⟨A26, cp27, A30, cp31, Z34, hle35, rfl, hr28, hr32, hI⟩
        refine ⟨_, rfl, ?_⟩
        refine OpsT.pures (r := [5, 6, 7]) [2, 3, 4] [1, 2, 3, 7, 8, 67, 68] (S' := [(1, .int .i64 a1), (2, .int .i64 a2), (3, .pointer (some ⟨b1, 0, none⟩)), (7, .bool y3), (8, .slice A7 y6.length cp8), (67, .agg ((([.slice A26 y25.length cp27, .slice A30 y29.length cp31] : List Value))).toArray), (68, .bool y33)]) (by kernel_rfl) ?_
        refine OpsT.cons (Does.allocL (d := 9) (T := 25) ((([.slice none 0 0, .slice none 0 0] : List Value))) (by kernel_rfl) ty25 hI (by kernel_rfl) ?_)
        intro b36 w hI
        refine OpsT.cons (Does.storeLit (T := 25) (b := b36) (o := 0) (v := .agg ((([.slice A26 y25.length cp27, .slice A30 y29.length cp31] : List Value))).toArray) (l := (([.slice none 0 0, .slice none 0 0] : List Value))) (vs := (([.slice A26 y25.length cp27, .slice A30 y29.length cp31] : List Value))) (L' := (([.slice A26 y25.length cp27, .slice A30 y29.length cp31] : List Value))) (by kernel_rfl) ty25 hI (by kernel_rfl) (by kernel_rfl) (by kernel_rfl) (by kernel_rfl) (by kernel_rfl) ?_)
        intro w hI
        refine OpsT.pures (r := []) [7] [1, 2, 3, 7, 8, 9, 10] (S' := [(1, .int .i64 a1), (2, .int .i64 a2), (3, .pointer (some ⟨b1, 0, none⟩)), (7, .bool y3), (8, .slice A7 y6.length cp8), (9, .pointer (some ⟨b36, 0, none⟩)), (10, .bool y33)]) (by kernel_rfl) ?_
        refine OpsT.done ?_
        refine Qn.then ?_
        refine CodT.seq ?_
        obtain ⟨r1, h1, h0⟩ := bindS h0
        refine CodT.meet (fun a w => ∃ (x37 : Bool), x37 = r1 ∧ Fr 154 [(1, .int .i64 a1), (2, .int .i64 a2), (7, .bool y3), (8, .slice A7 y6.length cp8), (76, .bool x37)] a ∧ Inv w0 Z34 w A) ?_ ?_
        ·
          refine CodT.regionL [0, 1, 2, 3, 4, 5, 6, 7] (by kernel_rfl) ?_
          refine OpsT.pures (r := [3, 4, 5, 6, 7]) [0, 1, 2] [1, 2, 3, 7, 8, 9, 71] (S' := [(1, .int .i64 a1), (2, .int .i64 a2), (3, .pointer (some ⟨b1, 0, none⟩)), (7, .bool y3), (8, .slice A7 y6.length cp8), (9, .pointer (some ⟨b36, 0, none⟩)), (71, .bool (!y33))]) (by kernel_rfl) ?_
          by_cases hb38 : (!y33) = true
          · rw [if_pos hb38] at h1
            refine OpsT.keep [1, 2, 3, 7, 8, 9, 71] (S' := [(1, .int .i64 a1), (2, .int .i64 a2), (3, .pointer (some ⟨b1, 0, none⟩)), (7, .bool y3), (8, .slice A7 y6.length cp8), (9, .pointer (some ⟨b36, 0, none⟩)), (71, .bool true)]) (by simp only [hb38]; kernel_rfl) ?_
            refine OpsT.pures (r := []) [3, 4, 5, 6, 7] [1, 2, 7, 8, 76] (S' := [(1, .int .i64 a1), (2, .int .i64 a2), (7, .bool y3), (8, .slice A7 y6.length cp8), (76, .bool true)]) (by kernel_rfl) ?_
            refine OpsT.done ?_
            have hI := hI.drop
            have hI := hI.drop
            have e := someS h1
            subst e
            exact Qn.thenJ fun a ha => ⟨true, rfl, ha.keep [1, 2, 7, 8, 76] (by kernel_rfl), hI⟩
          · rw [if_neg hb38] at h1
            have hb38 : (!y33) = false := by simpa using hb38
            refine OpsT.keep [1, 2, 3, 7, 8, 9, 71] (S' := [(1, .int .i64 a1), (2, .int .i64 a2), (3, .pointer (some ⟨b1, 0, none⟩)), (7, .bool y3), (8, .slice A7 y6.length cp8), (9, .pointer (some ⟨b36, 0, none⟩)), (71, .bool false)]) (by simp only [hb38]; kernel_rfl) ?_
            refine OpsT.cons (Does.yi (Yl.load (d := 72) (T := 25) (v := .agg ((([.slice A26 y25.length cp27, .slice A30 y29.length cp31] : List Value))).toArray) (by kernel_rfl) (ldBN ty25 (l := (([.slice A26 y25.length cp27, .slice A30 y29.length cp31] : List Value))) (o := 0) (cs := (([.slice A26 y25.length cp27, .slice A30 y29.length cp31] : List Value))) (ent_refl _) (by kernel_rfl) (whole _ _ (by kernel_rfl)))) hI ?_)
            refine OpsT.cons (Does.yi (Yl.load (d := 73) (T := 25) (v := .agg ((([.slice A_a0_Map a0_Map.length c_a0_Map, .slice A_a0_Gone a0_Gone.length c_a0_Gone] : List Value))).toArray) (by kernel_rfl) (ldBN ty25 (l := (([.slice A_a0_Map a0_Map.length c_a0_Map, .slice A_a0_Gone a0_Gone.length c_a0_Gone] : List Value))) (o := 0) (cs := (([.slice A_a0_Map a0_Map.length c_a0_Map, .slice A_a0_Gone a0_Gone.length c_a0_Gone] : List Value))) (pick2 _ _ _) (by kernel_rfl) (whole _ _ (by kernel_rfl)))) hI ?_)
            obtain ⟨y40, hc39, h1⟩ := bindS h1
            try dsimp only at h1
            refine OpsT.cons (Does.call (d := some 74) (n := 15) (vs := [.agg ((([.slice A26 y25.length cp27, .slice A30 y29.length cp31] : List Value))).toArray, .agg ((([.slice A_a0_Map a0_Map.length c_a0_Map, .slice A_a0_Gone a0_Gone.length c_a0_Gone] : List Value))).toArray]) (by kernel_rfl) en15 (c15 w0 w _ _ hI A26 cp27 y25 hr28 A30 cp31 y29 hr32 A_a0_Map c_a0_Map a0_Map (hr_a0_Map.mono (Hp.le_trans hle22 hle35)) A_a0_Gone c_a0_Gone a0_Gone (hr_a0_Gone.mono (Hp.le_trans hle22 hle35)) _ hc39) ?_)
            rintro e w ⟨rfl, hI⟩
            refine ⟨_, rfl, ?_⟩
            refine OpsT.pures (r := []) [6, 7] [1, 2, 7, 8, 76] (S' := [(1, .int .i64 a1), (2, .int .i64 a2), (7, .bool y3), (8, .slice A7 y6.length cp8), (76, .bool (!y40))]) (by kernel_rfl) ?_
            refine OpsT.done ?_
            have hI := hI.drop
            have hI := hI.drop
            have e := someS h1
            subst e
            exact Qn.thenJ fun a ha => ⟨!y40, rfl, ha.keep [1, 2, 7, 8, 76] (by kernel_rfl), hI⟩
        ·
          rintro a w ⟨x37, rfl, ha, hI⟩
          try dsimp only at h0
          refine CodT.of ?_ ha
          by_cases hb41 : x37 = true
          · rw [if_pos hb41] at h0
            refine CodT.yes' (b := x37) (by kernel_rfl) hb41 ?_
            refine CodT.seq ?_
            refine CodT.regionL [0] (by kernel_rfl) ?_
            refine OpsT.pures (r := []) [0] [6] (S' := [(6, .bool false)]) (by kernel_rfl) ?_
            refine OpsT.done ?_
            refine Qn.then ?_
            refine CodT.ret ?_
            refine Qn.ret_then ?_
            have e := someS h0
            subst e
            refine Qn.keep [6] (S' := [(6, .bool false)]) (by kernel_rfl) ?_
            exact post_ret (v := .bool false) (fun a ha => RunRes.run (vs := [.bool false]) (.tmp (t := 6) (by kernel_rfl) .nil) ha (by kernel_rfl)) ⟨rfl, hI.weaken (Hp.le_trans hle22 hle35)⟩
          · rw [if_neg hb41] at h0
            refine CodT.no' (b := x37) (by kernel_rfl) (by simpa using hb41) ?_
            refine CodT.skip ?_
            refine Qn.then ?_
            refine CodT.seq ?_
            refine CodT.seq ?_
            refine CodT.regionL [0] (by kernel_rfl) ?_
            refine OpsT.pures (r := []) [0] [1, 2, 7, 8, 11] (S' := [(1, .int .i64 a1), (2, .int .i64 a2), (7, .bool y3), (8, .slice A7 y6.length cp8), (11, .int .i64 0)]) (by kernel_rfl) ?_
            refine OpsT.done ?_
            refine Qn.then ?_
            obtain ⟨r1, h1, h0⟩ := bindS h0
            refine CodT.meet1 (fun a w => .inr () = r1 ∧ Fr 154 [(2, .int .i64 a2), (7, .bool y3), (8, .slice A7 y6.length cp8)] a ∧ Inv w0 Z34 w A) ?_ ?_
            ·
              refine CodT.block ?_
              refine (fun a ha => wp_loopN (fun k a w => ∃ (x42 : Int), law15_RootBack.l0 y6 a1 k x42 = some r1 ∧ Fr 154 [(1, .int .i64 a1), (2, .int .i64 a2), (7, .bool y3), (8, .slice A7 y6.length cp8), (11, .int .i64 x42)] a ∧ Inv w0 Z34 w A) ?_ FU a w ⟨0, h1, ha.keep [1, 2, 7, 8, 11] (by kernel_rfl), hI⟩)
              clear h1 hI
              rintro k a w ⟨x42, h1, ha, hI⟩
              rcases k with _ | k
              · cases h1
              simp only [law15_RootBack.l0] at h1
              refine CodT.of ?_ ha
              refine CodT.seq ?_
              refine CodT.seq ?_
              refine CodT.regionL [0, 1, 2, 3] (by kernel_rfl) ?_
              refine OpsT.pures (r := []) [0, 1, 2, 3] [1, 2, 7, 8, 11, 80] (S' := [(1, .int .i64 a1), (2, .int .i64 a2), (7, .bool y3), (8, .slice A7 y6.length cp8), (11, .int .i64 x42), (80, .bool (decide (x42 < (y6.length : Int))))]) (by kernel_rfl) ?_
              refine OpsT.done ?_
              refine Qn.then ?_
              by_cases hb43 : (decide (x42 < (y6.length : Int))) = true
              · rw [if_pos hb43] at h1
                refine CodT.yes' (b := decide (x42 < (y6.length : Int))) (by kernel_rfl) hb43 ?_
                refine CodT.skip ?_
                refine Qn.then ?_
                refine CodT.seq ?_
                refine CodT.block ?_
                refine CodT.seq ?_
                refine CodT.regionL [0, 1, 2, 3, 4, 5, 6] (by kernel_rfl) ?_
                refine OpsT.pures (r := [2, 3, 4, 5, 6]) [0, 1] [1, 2, 7, 8, 11, 83, 84] (S' := [(1, .int .i64 a1), (2, .int .i64 a2), (7, .bool y3), (8, .slice A7 y6.length cp8), (11, .int .i64 x42), (83, .slice A7 y6.length cp8), (84, .int .i64 x42)]) (by kernel_rfl) ?_
                obtain ⟨hg44, h1⟩ := guardS h1
                obtain ⟨g45, o49, hA46, hr47, hl48⟩ := RdS.get (hr23.mono hle35) hg44.1 hg44.2
                refine OpsT.cons (Does.yi (Yl.indexSlice (d := 85) (T := 36) (cc := cp8) (k := .i64) (j := x42) (g := g45) (o := o49) (by kernel_rfl) Go.Proofs.Try.underlying36 ty9 hA46 hg44.1 hg44.2) hI ?_)
                refine OpsT.cons (Does.yi (Yl.load (d := 86) (T := 9) (v := .string (gt y6 x42)) (by kernel_rfl) (ldR ty9 (v := .string (gt y6 x42)) 0 (fun w hC => hr47 w0 w _ hC) (by kernel_rfl))) hI ?_)
                refine OpsT.pures (r := []) [4, 5, 6] [1, 2, 7, 8, 11, 89] (S' := [(1, .int .i64 a1), (2, .int .i64 a2), (7, .bool y3), (8, .slice A7 y6.length cp8), (11, .int .i64 x42), (89, .bool (decide (((gt y6 x42).size : Int) > a1)))]) (by kernel_rfl) ?_
                refine OpsT.done ?_
                refine Qn.then ?_
                by_cases hb50 : (decide (((gt y6 x42).size : Int) > a1)) = true
                · rw [if_pos hb50] at h1
                  refine CodT.yes' (b := decide (((gt y6 x42).size : Int) > a1)) (by kernel_rfl) hb50 ?_
                  refine CodT.seq ?_
                  refine CodT.regionL [0] (by kernel_rfl) ?_
                  refine OpsT.pures (r := []) [0] [6] (S' := [(6, .bool false)]) (by kernel_rfl) ?_
                  refine OpsT.done ?_
                  refine Qn.then ?_
                  refine CodT.ret ?_
                  refine Qn.block_ret ?_
                  refine Qn.ret_then ?_
                  refine Qn.ret_then ?_
                  refine Qn.block_ret ?_
                  refine Qn.ret_then ?_
                  refine Qn.ret_then ?_
                  have e := someS h1
                  subst e
                  try dsimp only at h0
                  have e := someS h0
                  subst e
                  refine Qn.keep [6] (S' := [(6, .bool false)]) (by kernel_rfl) ?_
                  exact post_ret (v := .bool false) (fun a ha => RunRes.run (vs := [.bool false]) (.tmp (t := 6) (by kernel_rfl) .nil) ha (by kernel_rfl)) ⟨rfl, hI.weaken (Hp.le_trans hle22 hle35)⟩
                · rw [if_neg hb50] at h1
                  refine CodT.no' (b := decide (((gt y6 x42).size : Int) > a1)) (by kernel_rfl) (by simpa using hb50) ?_
                  refine CodT.skip ?_
                  refine Qn.block_normal ?_
                  refine Qn.then ?_
                  refine CodT.regionL [0, 1, 2] (by kernel_rfl) ?_
                  refine OpsT.pures (r := []) [0, 1, 2] [1, 2, 7, 8, 11] (S' := [(1, .int .i64 a1), (2, .int .i64 a2), (7, .bool y3), (8, .slice A7 y6.length cp8), (11, .int .i64 (wi64 (x42 + 1)))]) (by kernel_rfl) ?_
                  refine OpsT.done ?_
                  exact Qn.thenJ fun a ha => ⟨k, Nat.lt_succ_self k, wi64 (x42 + 1), h1, ha.keep [1, 2, 7, 8, 11] (by kernel_rfl), hI⟩
              · rw [if_neg hb43] at h1
                refine CodT.no' (b := decide (x42 < (y6.length : Int))) (by kernel_rfl) (by simpa using hb43) ?_
                refine CodT.exit ?_
                refine Qn.exit_then ?_
                refine Qn.exit_then ?_
                refine Qn.block ?_
                have e := someS h1
                subst e
                exact Qn.thenJ fun a ha => ⟨rfl, ha.keep [2, 7, 8] (by kernel_rfl), hI⟩
            ·
              rintro a w ⟨rfl, ha, hI⟩
              try dsimp only at h0
              refine Qn.of ?_ ha
              refine Qn.then ?_
              refine CodT.seq ?_
              refine CodT.regionL [0, 1, 2, 3, 4, 5, 6, 7, 8, 9, 10, 11] (by kernel_rfl) ?_
              refine OpsT.pures (r := [4, 5, 6, 7, 8, 9, 10, 11]) [0, 1, 2, 3] [2, 7, 8, 91, 94] (S' := [(2, .int .i64 a2), (7, .bool y3), (8, .slice A7 y6.length cp8), (91, .slice A7 y6.length cp8), (94, .int .i64 (wi64 ((y6.length : Int) - 1)))]) (by kernel_rfl) ?_
              obtain ⟨hg51, h0⟩ := guardS h0
              have hf57 := (hr23.mono hle35)
              have hr54 := RdS.sub hf57 hg51
              obtain ⟨A52, hA55⟩ : ∃ x, subA A7 cp8 0 1 = x := ⟨_, rfl⟩
              obtain ⟨cp53, hc56⟩ : ∃ x, cp8 - (0 : Int).toNat = x := ⟨_, rfl⟩
              rw [hA55, hc56] at hr54
              refine OpsT.cons (Does.yi (Yl.sub (lo := none) (hi := (some (.int .i64 (wi64 ((y6.length : Int) - 1))))) (d := 95) (T := 36) (a := 0) (b := wi64 ((y6.length : Int) - 1)) (by kernel_rfl) Go.Proofs.Try.underlying36 ty9 (.inr ⟨rfl, rfl⟩) (.inl ⟨_, rfl⟩) hg51 hf57.1 (sub_length _ hg51) hA55 hc56) hI ?_)
              obtain ⟨⟨y59, y63, y67⟩, hc58, h0⟩ := bindS h0
              try dsimp only at h0
              refine OpsT.cons (Does.call (d := some 96) (n := 19) (vs := [.slice A52 ((sub y6 0 (wi64 ((y6.length : Int) - 1))).length) cp53]) (by kernel_rfl) en19 (c19 w0 w _ _ hI A52 cp53 (sub y6 0 (wi64 ((y6.length : Int) - 1))) hr54 _ hc58) ?_)
              rintro e w ⟨A60, cp61, A64, cp65, Z68, hle69, rfl, hr62, hr66, hI⟩
              refine ⟨_, rfl, ?_⟩
              refine OpsT.pures (r := [9, 10, 11]) [6, 7, 8] [2, 7, 8, 97, 98] (S' := [(2, .int .i64 a2), (7, .bool y3), (8, .slice A7 y6.length cp8), (97, .agg ((([.slice A60 y59.length cp61, .slice A64 y63.length cp65] : List Value))).toArray), (98, .bool y67)]) (by kernel_rfl) ?_
              refine OpsT.cons (Does.allocL (d := 12) (T := 25) ((([.slice none 0 0, .slice none 0 0] : List Value))) (by kernel_rfl) ty25 hI (by kernel_rfl) ?_)
              intro b70 w hI
              refine OpsT.cons (Does.storeLit (T := 25) (b := b70) (o := 0) (v := .agg ((([.slice A60 y59.length cp61, .slice A64 y63.length cp65] : List Value))).toArray) (l := (([.slice none 0 0, .slice none 0 0] : List Value))) (vs := (([.slice A60 y59.length cp61, .slice A64 y63.length cp65] : List Value))) (L' := (([.slice A60 y59.length cp61, .slice A64 y63.length cp65] : List Value))) (by kernel_rfl) ty25 hI (by kernel_rfl) (by kernel_rfl) (by kernel_rfl) (by kernel_rfl) (by kernel_rfl) ?_)
              intro w hI
              refine OpsT.pures (r := []) [11] [2, 7, 8, 13] (S' := [(2, .int .i64 a2), (7, .bool y3), (8, .slice A7 y6.length cp8), (13, .bool y67)]) (by kernel_rfl) ?_
              refine OpsT.done ?_
              refine Qn.then ?_
              refine CodT.seq ?_
              obtain ⟨r1, h1, h0⟩ := bindS h0
              refine CodT.meet (fun a w => ∃ (x71 : Bool) (x72 : Bool), (x71, x72) = r1 ∧ Fr 154 [(2, .int .i64 a2), (7, .bool y3), (8, .slice A7 y6.length cp8), (13, .bool x71), (115, .bool x72)] a ∧ Inv w0 Z68 w A) ?_ ?_
              ·
                refine CodT.regionL [0, 1, 2, 3, 4, 5, 6, 7, 8, 9, 10, 11, 12, 13, 14, 15, 16] (by kernel_rfl) ?_
                refine OpsT.pures (r := [2, 3, 4, 5, 6, 7, 8, 9, 10, 11, 12, 13, 14, 15, 16]) [0, 1] [2, 7, 8, 13, 100] (S' := [(2, .int .i64 a2), (7, .bool y3), (8, .slice A7 y6.length cp8), (13, .bool y67), (100, .bool y67)]) (by kernel_rfl) ?_
                by_cases hb73 : y67 = true
                · rw [if_pos hb73] at h1
                  refine OpsT.keep [2, 7, 8, 13, 100] (S' := [(2, .int .i64 a2), (7, .bool y3), (8, .slice A7 y6.length cp8), (13, .bool true), (100, .bool true)]) (by simp only [hb73]; kernel_rfl) ?_
                  refine OpsT.pures (r := []) [2, 3, 4, 5, 6, 7, 8, 9, 10, 11, 12, 13, 14, 15, 16] [2, 7, 8, 13, 115] (S' := [(2, .int .i64 a2), (7, .bool y3), (8, .slice A7 y6.length cp8), (13, .bool true), (115, .bool true)]) (by kernel_rfl) ?_
                  refine OpsT.done ?_
                  have hI := hI.drop
                  have e := someS h1
                  subst e
                  exact Qn.thenJ fun a ha => ⟨true, true, rfl, ha.keep [2, 7, 8, 13, 115] (by kernel_rfl), hI⟩
                · rw [if_neg hb73] at h1
                  have hb73 : y67 = false := by simpa using hb73
                  refine OpsT.keep [2, 7, 8, 13, 100] (S' := [(2, .int .i64 a2), (7, .bool y3), (8, .slice A7 y6.length cp8), (13, .bool false), (100, .bool false)]) (by simp only [hb73]; kernel_rfl) ?_
                  refine OpsT.pures (r := [7, 8, 9, 10, 11, 12, 13, 14, 15, 16]) [2, 3, 4, 5, 6] [2, 7, 8, 13, 105] (S' := [(2, .int .i64 a2), (7, .bool y3), (8, .slice A7 y6.length cp8), (13, .bool false), (105, .bool (decide ((y6.length : Int) < 2)))]) (by kernel_rfl) ?_
                  by_cases hb74 : (decide ((y6.length : Int) < 2)) = true
                  · rw [if_pos hb74] at h1
                    refine OpsT.keep [2, 7, 8, 13, 105] (S' := [(2, .int .i64 a2), (7, .bool y3), (8, .slice A7 y6.length cp8), (13, .bool false), (105, .bool true)]) (by simp only [hb74]; kernel_rfl) ?_
                    refine OpsT.pures (r := []) [7, 8, 9, 10, 11, 12, 13, 14, 15, 16] [2, 7, 8, 13, 115] (S' := [(2, .int .i64 a2), (7, .bool y3), (8, .slice A7 y6.length cp8), (13, .bool false), (115, .bool true)]) (by kernel_rfl) ?_
                    refine OpsT.done ?_
                    have hI := hI.drop
                    have e := someS h1
                    subst e
                    exact Qn.thenJ fun a ha => ⟨false, true, rfl, ha.keep [2, 7, 8, 13, 115] (by kernel_rfl), hI⟩
                  · rw [if_neg hb74] at h1
                    have hb74 : (decide ((y6.length : Int) < 2)) = false := by simpa using hb74
                    refine OpsT.keep [2, 7, 8, 13, 105] (S' := [(2, .int .i64 a2), (7, .bool y3), (8, .slice A7 y6.length cp8), (13, .bool false), (105, .bool false)]) (by simp only [hb74]; kernel_rfl) ?_
                    refine OpsT.pures (r := [11, 12, 13, 14, 15, 16]) [7, 8, 9, 10] [2, 7, 8, 13, 109] (S' := [(2, .int .i64 a2), (7, .bool y3), (8, .slice A7 y6.length cp8), (13, .bool false), (109, .bool (decide (a2 < 0)))]) (by kernel_rfl) ?_
                    by_cases hb75 : (decide (a2 < 0)) = true
                    · rw [if_pos hb75] at h1
                      refine OpsT.keep [2, 7, 8, 13, 109] (S' := [(2, .int .i64 a2), (7, .bool y3), (8, .slice A7 y6.length cp8), (13, .bool false), (109, .bool true)]) (by simp only [hb75]; kernel_rfl) ?_
                      refine OpsT.pures (r := []) [11, 12, 13, 14, 15, 16] [2, 7, 8, 13, 115] (S' := [(2, .int .i64 a2), (7, .bool y3), (8, .slice A7 y6.length cp8), (13, .bool false), (115, .bool true)]) (by kernel_rfl) ?_
                      refine OpsT.done ?_
                      have hI := hI.drop
                      have e := someS h1
                      subst e
                      exact Qn.thenJ fun a ha => ⟨false, true, rfl, ha.keep [2, 7, 8, 13, 115] (by kernel_rfl), hI⟩
                    · rw [if_neg hb75] at h1
                      have hb75 : (decide (a2 < 0)) = false := by simpa using hb75
                      refine OpsT.keep [2, 7, 8, 13, 109] (S' := [(2, .int .i64 a2), (7, .bool y3), (8, .slice A7 y6.length cp8), (13, .bool false), (109, .bool false)]) (by simp only [hb75]; kernel_rfl) ?_
                      refine OpsT.pures (r := []) [11, 12, 13, 14, 15, 16] [2, 7, 8, 13, 115] (S' := [(2, .int .i64 a2), (7, .bool y3), (8, .slice A7 y6.length cp8), (13, .bool false), (115, .bool (decide (a2 > (wi64 ((y6.length : Int) - 2)))))]) (by kernel_rfl) ?_
                      refine OpsT.done ?_
                      have hI := hI.drop
                      have e := someS h1
                      subst e
                      exact Qn.thenJ fun a ha => ⟨false, decide (a2 > (wi64 ((y6.length : Int) - 2))), rfl, ha.keep [2, 7, 8, 13, 115] (by kernel_rfl), hI⟩
              ·
                rintro a w ⟨x71, x72, rfl, ha, hI⟩
                try dsimp only at h0
                refine CodT.of ?_ ha
                by_cases hb76 : x72 = true
                · rw [if_pos hb76] at h0
                  refine CodT.yes' (b := x72) (by kernel_rfl) hb76 ?_
                  obtain ⟨r1, h1, h0⟩ := bindS h0
                  refine CodT.meet (fun a w => ∃ (x77 : Bool), x77 = r1 ∧ Fr 154 [(6, .bool x77)] a ∧ Inv w0 Z68 w A) ?_ ?_
                  ·
                    refine CodT.regionL [0, 1, 2, 3, 4, 5] (by kernel_rfl) ?_
                    refine OpsT.pures (r := [2, 3, 4, 5]) [0, 1] [13, 117] (S' := [(13, .bool x71), (117, .bool y3)]) (by kernel_rfl) ?_
                    by_cases hb78 : y3 = true
                    · rw [if_pos hb78] at h1
                      refine OpsT.keep [13, 117] (S' := [(13, .bool x71), (117, .bool true)]) (by simp only [hb78]; kernel_rfl) ?_
                      refine OpsT.pures (r := []) [2, 3, 4, 5] [6] (S' := [(6, .bool (!x71))]) (by kernel_rfl) ?_
                      refine OpsT.done ?_
                      have e := someS h1
                      subst e
                      exact Qn.thenJ fun a ha => ⟨!x71, rfl, ha.keep [6] (by kernel_rfl), hI⟩
                    · rw [if_neg hb78] at h1
                      have hb78 : y3 = false := by simpa using hb78
                      refine OpsT.keep [13, 117] (S' := [(13, .bool x71), (117, .bool false)]) (by simp only [hb78]; kernel_rfl) ?_
                      refine OpsT.pures (r := []) [2, 3, 4, 5] [6] (S' := [(6, .bool false)]) (by kernel_rfl) ?_
                      refine OpsT.done ?_
                      have e := someS h1
                      subst e
                      exact Qn.thenJ fun a ha => ⟨false, rfl, ha.keep [6] (by kernel_rfl), hI⟩
                  ·
                    rintro a w ⟨x77, rfl, ha, hI⟩
                    try dsimp only at h0
                    refine CodT.of ?_ ha
                    refine CodT.ret ?_
                    refine Qn.ret_then ?_
                    have e := someS h0
                    subst e
                    refine Qn.keep [6] (S' := [(6, .bool x77)]) (by kernel_rfl) ?_
                    exact post_ret (v := .bool x77) (fun a ha => RunRes.run (vs := [.bool x77]) (.tmp (t := 6) (by kernel_rfl) .nil) ha (by kernel_rfl)) ⟨rfl, hI.weaken (Hp.le_trans (Hp.le_trans hle22 hle35) hle69)⟩
                · rw [if_neg hb76] at h0
                  refine CodT.no' (b := x72) (by kernel_rfl) (by simpa using hb76) ?_
                  refine CodT.skip ?_
                  refine Qn.then ?_
                  refine CodT.seq ?_
                  refine CodT.regionL [0] (by kernel_rfl) ?_
                  refine OpsT.pures (r := []) [0] [2, 7, 8, 14] (S' := [(2, .int .i64 a2), (7, .bool y3), (8, .slice A7 y6.length cp8), (14, .slice none 0 0)]) (by kernel_rfl) ?_
                  refine OpsT.done ?_
                  refine Qn.then ?_
                  refine CodT.seq ?_
                  refine CodT.regionL [0, 1, 2, 3, 4, 5] (by kernel_rfl) ?_
                  refine OpsT.pures (r := [3, 4, 5]) [0, 1, 2] [2, 7, 8, 121, 122, 123] (S' := [(2, .int .i64 a2), (7, .bool y3), (8, .slice A7 y6.length cp8), (121, .slice none 0 0), (122, .slice A7 y6.length cp8), (123, .int .i64 a2)]) (by kernel_rfl) ?_
                  obtain ⟨hg79, h0⟩ := guardS h0
                  have hf85 := (hr23.mono (Hp.le_trans hle35 hle69))
                  have hr82 := RdS.sub hf85 hg79
                  obtain ⟨A80, hA83⟩ : ∃ x, subA A7 cp8 0 1 = x := ⟨_, rfl⟩
                  obtain ⟨cp81, hc84⟩ : ∃ x, cp8 - (0 : Int).toNat = x := ⟨_, rfl⟩
                  rw [hA83, hc84] at hr82
                  refine OpsT.cons (Does.yi (Yl.sub (lo := none) (hi := (some (.int .i64 a2))) (d := 124) (T := 36) (a := 0) (b := a2) (by kernel_rfl) Go.Proofs.Try.underlying36 ty9 (.inr ⟨rfl, rfl⟩) (.inl ⟨_, rfl⟩) hg79 hf85.1 (sub_length _ hg79) hA83 hc84) hI ?_)
                  have hI := ownS_nil (α := ByteArray) hI 9 cS 1
                  obtain ⟨hg86, h0⟩ := guardS h0
                  refine OpsT.cons (Does.append (d := 125) (t := 36) (tx := 36) (ty := 36) (ys := ([] : List ByteArray)) (zs := sub y6 0 a2) (x := .slice A80 ((sub y6 0 a2).length) cp81) (by kernel_rfl) Go.Proofs.Try.underlying36 ty9 (by kernel_rfl) hI (src_rd Go.Proofs.Try.underlying36 hI hr82 (one_flat _ (fun _ => rfl))) hr82.2.2.1 (by unfold LIM at hg86; omega) hg86 ?_)
                  intro A87 cp88 w hI
                  refine OpsT.pures (r := []) [5] [2, 7, 8, 14] (S' := [(2, .int .i64 a2), (7, .bool y3), (8, .slice A7 y6.length cp8), (14, .slice A87 ((([] : List ByteArray) ++ (sub y6 0 a2)).length) cp88)]) (by kernel_rfl) ?_
                  refine OpsT.done ?_
                  refine Qn.then ?_
                  refine CodT.seq ?_
                  refine CodT.drawI (n := 13) [11] (by kernel_rfl) (by kernel_rfl) hI ?_
                  intro w hI
                  refine GmT.p' 0 126 (.slice A87 ((([] : List ByteArray) ++ (sub y6 0 a2)).length) cp88) (by kernel_rfl) (by kernel_rfl) ?_
                  refine GmT.p' 1 127 (.slice A7 y6.length cp8) (by kernel_rfl) (by kernel_rfl) ?_
                  refine GmT.p' 2 128 (.int .i64 a2) (by kernel_rfl) (by kernel_rfl) ?_
                  refine GmT.p' 3 129 (.int .i64 (wi64 (a2 + 1))) (by kernel_rfl) (by kernel_rfl) ?_
                  refine GmT.p' 6 132 (.slice A7 y6.length cp8) (by kernel_rfl) (by kernel_rfl) ?_
                  refine GmT.p' 7 133 (.int .i64 a2) (by kernel_rfl) (by kernel_rfl) ?_
                  obtain ⟨hg89, h0⟩ := guardS h0
                  obtain ⟨g90, o94, hA91, hr92, hl93⟩ := RdS.get (hr23.mono (Hp.le_trans hle35 hle69)) hg89.1 hg89.2
                  refine GmT.r (i := 4) 4 (by kernel_rfl) (by kernel_rfl) (Yl.indexSlice (d := 130) (T := 36) (cc := cp8) (k := .i64) (j := wi64 (a2 + 1)) (g := g90) (o := o94) (by kernel_rfl) Go.Proofs.Try.underlying36 ty9 hA91 hg89.1 hg89.2) hI ?_
                  refine GmT.r (i := 5) 3 (by kernel_rfl) (by kernel_rfl) (Yl.load (d := 131) (T := 9) (v := .string (gt y6 (wi64 (a2 + 1)))) (by kernel_rfl) (ldR ty9 (v := .string (gt y6 (wi64 (a2 + 1)))) 0 (fun w hC => hr92 w0 w _ hC) (by kernel_rfl))) hI ?_
                  obtain ⟨hg95, h0⟩ := guardS h0
                  obtain ⟨g96, o100, hA97, hr98, hl99⟩ := RdS.get (hr23.mono (Hp.le_trans hle35 hle69)) hg95.1 hg95.2
                  refine GmT.r (i := 8) 4 (by kernel_rfl) (by kernel_rfl) (Yl.indexSlice (d := 134) (T := 36) (cc := cp8) (k := .i64) (j := a2) (g := g96) (o := o100) (by kernel_rfl) Go.Proofs.Try.underlying36 ty9 hA97 hg95.1 hg95.2) hI ?_
                  refine GmT.r (i := 9) 3 (by kernel_rfl) (by kernel_rfl) (Yl.load (d := 135) (T := 9) (v := .string (gt y6 a2)) (by kernel_rfl) (ldR ty9 (v := .string (gt y6 a2)) 0 (fun w hC => hr98 w0 w _ hC) (by kernel_rfl))) hI ?_
                  refine GmT.o (i := 10) (by kernel_rfl) (Does.buildSlice (en := cS) (d := 136) (n := 2) (T := 36) (ps := [(0, .string (gt y6 (wi64 (a2 + 1)))), (1, .string (gt y6 a2))]) ([gt y6 (wi64 (a2 + 1)), gt y6 a2] : List ByteArray) (by kernel_rfl) Go.Proofs.Try.underlying36 ty9 (by kernel_rfl) (by kernel_rfl) (by kernel_rfl) (by kernel_rfl) (len_all (fun _ => rfl)) hI ?_)
                  intro b101 w hI
                  have hC := hI
                  have hC := hC.drop
                  refine ⟨fun _ _ => hC, ?_⟩
                  obtain ⟨hg102, h0⟩ := guardS h0
                  have hI := hI.mono (pick2 _ _ _)
                  refine GmT.o (i := 11) (by kernel_rfl) (Does.append (d := 137) (t := 36) (tx := 36) (ty := 36) (ys := ([] : List ByteArray) ++ (sub y6 0 a2)) (zs := ([gt y6 (wi64 (a2 + 1)), gt y6 a2] : List ByteArray)) (x := .slice (some ⟨b101, 0, none⟩) (([gt y6 (wi64 (a2 + 1)), gt y6 a2] : List ByteArray).length) 2) (by kernel_rfl) Go.Proofs.Try.underlying36 ty9 (by kernel_rfl) hI (src_own Go.Proofs.Try.underlying36 (hI.mono (pick2 _ _ _)) (one_flat _ (fun _ => rfl))) (ownS_facts (hI.mono (pick2 _ _ _))).2.2 (by unfold LIM at hg102; omega) hg102 ?_)
                  intro A103 cp104 w hI
                  refine ⟨fun h => absurd h (by decide), ?_⟩
                  refine GmT.p' 12 14 (.slice A103 (((([] : List ByteArray) ++ (sub y6 0 a2)) ++ ([gt y6 (wi64 (a2 + 1)), gt y6 a2] : List ByteArray)).length) cp104) (by kernel_rfl) (by kernel_rfl) ?_
                  refine GmT.done (by kernel_rfl) ?_
                  refine Qn.then ?_
                  refine CodT.seq ?_
                  refine CodT.regionL [0, 1, 2, 3, 4, 5, 6] (by kernel_rfl) ?_
                  refine OpsT.pures (r := [4, 5, 6]) [0, 1, 2, 3] [7, 138, 139, 141] (S' := [(7, .bool y3), (138, .slice A103 (((([] : List ByteArray) ++ (sub y6 0 a2)) ++ ([gt y6 (wi64 (a2 + 1)), gt y6 a2] : List ByteArray)).length) cp104), (139, .slice A7 y6.length cp8), (141, .int .i64 (wi64 (a2 + 2)))]) (by kernel_rfl) ?_
                  obtain ⟨hg105, h0⟩ := guardS h0
                  have hf111 := (hr23.mono (Hp.le_trans hle35 hle69))
                  have hr108 := RdS.sub hf111 hg105
                  obtain ⟨A106, hA109⟩ : ∃ x, subA A7 cp8 (wi64 (a2 + 2)) 1 = x := ⟨_, rfl⟩
                  obtain ⟨cp107, hc110⟩ : ∃ x, cp8 - (wi64 (a2 + 2) : Int).toNat = x := ⟨_, rfl⟩
                  rw [hA109, hc110] at hr108
                  refine OpsT.cons (Does.yi (Yl.sub (lo := (some (.int .i64 (wi64 (a2 + 2))))) (hi := none) (d := 142) (T := 36) (a := wi64 (a2 + 2)) (b := (y6.length : Int)) (by kernel_rfl) Go.Proofs.Try.underlying36 ty9 (.inl ⟨_, rfl⟩) (.inr ⟨rfl, rfl⟩) hg105 hf111.1 (sub_length _ hg105) hA109 hc110) hI ?_)
                  obtain ⟨hg112, h0⟩ := guardS h0
                  refine OpsT.cons (Does.append (d := 143) (t := 36) (tx := 36) (ty := 36) (ys := (([] : List ByteArray) ++ (sub y6 0 a2)) ++ ([gt y6 (wi64 (a2 + 1)), gt y6 a2] : List ByteArray)) (zs := sub y6 (wi64 (a2 + 2)) (y6.length : Int)) (x := .slice A106 ((sub y6 (wi64 (a2 + 2)) (y6.length : Int)).length) cp107) (by kernel_rfl) Go.Proofs.Try.underlying36 ty9 (by kernel_rfl) hI (src_rd Go.Proofs.Try.underlying36 hI hr108 (one_flat _ (fun _ => rfl))) hr108.2.2.1 (by unfold LIM at hg112; omega) hg112 ?_)
                  intro A113 cp114 w hI
                  refine OpsT.pures (r := []) [6] [7, 14] (S' := [(7, .bool y3), (14, .slice A113 ((((([] : List ByteArray) ++ (sub y6 0 a2)) ++ ([gt y6 (wi64 (a2 + 1)), gt y6 a2] : List ByteArray)) ++ (sub y6 (wi64 (a2 + 2)) (y6.length : Int))).length) cp114)]) (by kernel_rfl) ?_
                  refine OpsT.done ?_
                  refine Qn.then ?_
                  refine CodT.seq ?_
                  refine CodT.regionL [0, 1, 2, 3, 4, 5, 6, 7] (by kernel_rfl) ?_
                  refine OpsT.pures (r := [1, 2, 3, 4, 5, 6, 7]) [0] [7, 145] (S' := [(7, .bool y3), (145, .slice A113 ((((([] : List ByteArray) ++ (sub y6 0 a2)) ++ ([gt y6 (wi64 (a2 + 1)), gt y6 a2] : List ByteArray)) ++ (sub y6 (wi64 (a2 + 2)) (y6.length : Int))).length) cp114)]) (by kernel_rfl) ?_
                  obtain ⟨Z115, hle116, hr117, hI⟩ := ownS_freeze hI
                  obtain ⟨⟨y119, y123, y127⟩, hc118, h0⟩ := bindS h0
                  try dsimp only at h0
                  refine OpsT.cons (Does.call (d := some 146) (n := 19) (vs := [.slice A113 ((((([] : List ByteArray) ++ (sub y6 0 a2)) ++ ([gt y6 (wi64 (a2 + 1)), gt y6 a2] : List ByteArray)) ++ (sub y6 (wi64 (a2 + 2)) (y6.length : Int))).length) cp114]) (by kernel_rfl) en19 (c19 w0 w _ _ hI A113 cp114 (((([] : List ByteArray) ++ (sub y6 0 a2)) ++ ([gt y6 (wi64 (a2 + 1)), gt y6 a2] : List ByteArray)) ++ (sub y6 (wi64 (a2 + 2)) (y6.length : Int))) hr117 _ hc118) ?_)
                  rintro e w ⟨A120, cp121, A124, cp125, Z128, hle129, rfl, hr122, hr126, hI⟩
                  refine ⟨_, rfl, ?_⟩
                  refine OpsT.pures (r := [5, 6, 7]) [2, 3, 4] [7, 147, 148] (S' := [(7, .bool y3), (147, .agg ((([.slice A120 y119.length cp121, .slice A124 y123.length cp125] : List Value))).toArray), (148, .bool y127)]) (by kernel_rfl) ?_
                  refine OpsT.cons (Does.allocL (d := 15) (T := 25) ((([.slice none 0 0, .slice none 0 0] : List Value))) (by kernel_rfl) ty25 hI (by kernel_rfl) ?_)
                  intro b130 w hI
                  refine OpsT.cons (Does.storeLit (T := 25) (b := b130) (o := 0) (v := .agg ((([.slice A120 y119.length cp121, .slice A124 y123.length cp125] : List Value))).toArray) (l := (([.slice none 0 0, .slice none 0 0] : List Value))) (vs := (([.slice A120 y119.length cp121, .slice A124 y123.length cp125] : List Value))) (L' := (([.slice A120 y119.length cp121, .slice A124 y123.length cp125] : List Value))) (by kernel_rfl) ty25 hI (by kernel_rfl) (by kernel_rfl) (by kernel_rfl) (by kernel_rfl) (by kernel_rfl) ?_)
                  intro w hI
                  refine OpsT.pures (r := []) [7] [7, 16] (S' := [(7, .bool y3), (16, .bool y127)]) (by kernel_rfl) ?_
                  refine OpsT.done ?_
                  refine Qn.then ?_
                  obtain ⟨r1, h1, h0⟩ := bindS h0
                  refine CodT.meet (fun a w => ∃ (x131 : Bool), x131 = r1 ∧ Fr 154 [(6, .bool x131)] a ∧ Inv w0 Z128 w A) ?_ ?_
                  ·
                    refine CodT.regionL [0, 1, 2, 3, 4, 5] (by kernel_rfl) ?_
                    refine OpsT.pures (r := [2, 3, 4, 5]) [0, 1] [16, 150] (S' := [(16, .bool y127), (150, .bool y3)]) (by kernel_rfl) ?_
                    by_cases hb132 : y3 = true
                    · rw [if_pos hb132] at h1
                      refine OpsT.keep [16, 150] (S' := [(16, .bool y127), (150, .bool true)]) (by simp only [hb132]; kernel_rfl) ?_
                      refine OpsT.pures (r := []) [2, 3, 4, 5] [6] (S' := [(6, .bool (!y127))]) (by kernel_rfl) ?_
                      refine OpsT.done ?_
                      have hI := hI.drop
                      have hI := hI.drop
                      have e := someS h1
                      subst e
                      exact Qn.thenJ fun a ha => ⟨!y127, rfl, ha.keep [6] (by kernel_rfl), hI⟩
                    · rw [if_neg hb132] at h1
                      have hb132 : y3 = false := by simpa using hb132
                      refine OpsT.keep [16, 150] (S' := [(16, .bool y127), (150, .bool false)]) (by simp only [hb132]; kernel_rfl) ?_
                      refine OpsT.pures (r := []) [2, 3, 4, 5] [6] (S' := [(6, .bool false)]) (by kernel_rfl) ?_
                      refine OpsT.done ?_
                      have hI := hI.drop
                      have hI := hI.drop
                      have e := someS h1
                      subst e
                      exact Qn.thenJ fun a ha => ⟨false, rfl, ha.keep [6] (by kernel_rfl), hI⟩
                  ·
                    rintro a w ⟨x131, rfl, ha, hI⟩
                    try dsimp only at h0
                    refine CodT.of ?_ ha
                    refine CodT.ret ?_
                    have e := someS h0
                    subst e
                    refine Qn.keep [6] (S' := [(6, .bool x131)]) (by kernel_rfl) ?_
                    exact post_ret (v := .bool x131) (fun a ha => RunRes.run (vs := [.bool x131]) (.tmp (t := 6) (by kernel_rfl) .nil) ha (by kernel_rfl)) ⟨rfl, hI.weaken (Hp.le_trans (Hp.le_trans (Hp.le_trans (Hp.le_trans hle22 hle35) hle69) hle116) hle129)⟩
end Go.Cen
