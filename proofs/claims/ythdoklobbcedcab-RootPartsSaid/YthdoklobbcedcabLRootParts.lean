/- The walk of the law RootParts, printed by a program of ours. -/
import Derived.Test.YthdoklobbcedcabWx4
set_option linter.unusedVariables false
set_option linter.unusedSimpArgs false
namespace Go.Cen
set_option maxRecDepth 100000 in
set_option maxHeartbeats 4000000 in
/-- cenotaph/cenotaphlaw15.RootParts -/
theorem c8 (w0 w : World) (Z : Hp) (A : HP) (hI : Inv w0 Z w A) (A_a0_Map : Option Addr) (c_a0_Map : Nat) (a0_Map : (List RootEntry)) (hr_a0_Map : RdS Z c_RootEntry 4 A_a0_Map c_a0_Map a0_Map) (A_a0_Gone : Option Addr) (c_a0_Gone : Nat) (a0_Gone : (List Int)) (hr_a0_Gone : RdS Z (cI .i64) 1 A_a0_Gone c_a0_Gone a0_Gone) (a1 : Int) (r : Bool) (h0 : law15_RootParts a0_Map a0_Gone a1 = some r) :
    Calls prog 8 #[.agg ((([.slice A_a0_Map a0_Map.length c_a0_Map, .slice A_a0_Gone a0_Gone.length c_a0_Gone] : List Value))).toArray, .int .i64 a1] w (fun e w' => e = .returned (.bool r) ∧ Inv w0 Z w' A) := by
  have e4 := calls_intro (R := (fun e w' => e = .returned (.bool r) ∧ Inv w0 Z w' A)) (w := w) (args := [.agg ((([.slice A_a0_Map a0_Map.length c_a0_Map, .slice A_a0_Gone a0_Gone.length c_a0_Gone] : List Value))).toArray, .int .i64 a1]) (fn := Go.Proofs.Try.f8) 63 Go.Proofs.Try.func8 (by rfl) Go.Proofs.Try.ntmps8 (by kernel_rfl)
  refine e4 ?_
  clear e4
  unfold law15_RootParts at h0
  refine CodT.seq ?_
  refine CodT.regionL [0, 1] (by kernel_rfl) ?_
  refine OpsT.cons (Does.boxL (d := 2) (T := 25) (v := .agg ((([.slice A_a0_Map a0_Map.length c_a0_Map, .slice A_a0_Gone a0_Gone.length c_a0_Gone] : List Value))).toArray) ((([.slice A_a0_Map a0_Map.length c_a0_Map, .slice A_a0_Gone a0_Gone.length c_a0_Gone] : List Value))) (by kernel_rfl) hI (by kernel_rfl) ?_)
  intro b1 w hI
  refine OpsT.pures (r := []) [1] [1, 2] (S' := [(1, .int .i64 a1), (2, .pointer (some ⟨b1, 0, none⟩))]) (by kernel_rfl) ?_
  refine OpsT.done ?_
  refine Qn.then ?_
  refine CodT.seq ?_
  refine CodT.regionL [0, 1] (by kernel_rfl) ?_
  obtain ⟨y3, hc2, h0⟩ := bindS h0
  try dsimp only at h0
  refine OpsT.cons (Does.call (d := some 8) (n := 10) (vs := []) (by kernel_rfl) en10 (c10 w0 w _ _ hI _ hc2) ?_)
  rintro e w ⟨rfl, hI⟩
  refine ⟨_, rfl, ?_⟩
  refine OpsT.pures (r := []) [1] [1, 2, 5] (S' := [(1, .int .i64 a1), (2, .pointer (some ⟨b1, 0, none⟩)), (5, .bool y3)]) (by kernel_rfl) ?_
  refine OpsT.done ?_
  refine Qn.then ?_
  refine CodT.seq ?_
  refine CodT.seq ?_
  refine CodT.regionL [0, 1] (by kernel_rfl) ?_
  refine OpsT.pures (r := []) [0, 1] [1, 2, 5, 10] (S' := [(1, .int .i64 a1), (2, .pointer (some ⟨b1, 0, none⟩)), (5, .bool y3), (10, .bool (!y3))]) (by kernel_rfl) ?_
  refine OpsT.done ?_
  refine Qn.then ?_
  by_cases hb4 : (!y3) = true
  · rw [if_pos hb4] at h0
    refine CodT.yes' (b := !y3) (by kernel_rfl) hb4 ?_
    refine CodT.seq ?_
    refine CodT.regionL [0] (by kernel_rfl) ?_
    refine OpsT.pures (r := []) [0] [4] (S' := [(4, .bool false)]) (by kernel_rfl) ?_
    refine OpsT.done ?_
    refine Qn.then ?_
    refine CodT.ret ?_
    refine Qn.ret_then ?_
    have hI := hI.drop
    have e := someS h0
    subst e
    refine Qn.keep [4] (S' := [(4, .bool false)]) (by kernel_rfl) ?_
    exact post_ret (v := .bool false) (fun a ha => RunRes.run (vs := [.bool false]) (.tmp (t := 4) (by kernel_rfl) .nil) ha (by kernel_rfl)) ⟨rfl, hI⟩
  · rw [if_neg hb4] at h0
    refine CodT.no' (b := !y3) (by kernel_rfl) (by simpa using hb4) ?_
    refine CodT.skip ?_
    refine Qn.then ?_
    refine CodT.seq ?_
    obtain ⟨r1, h1, h0⟩ := bindS h0
    refine CodT.meet (fun a w => ∃ (x5 : Bool), x5 = r1 ∧ Fr 63 [(1, .int .i64 a1), (2, .pointer (some ⟨b1, 0, none⟩)), (5, .bool y3), (33, .bool x5)] a ∧ Inv w0 Z w (star (pt b1 (.cells ((([.slice A_a0_Map a0_Map.length c_a0_Map, .slice A_a0_Gone a0_Gone.length c_a0_Gone] : List Value))).toArray 25 (0, 0))) A)) ?_ ?_
    ·
      refine CodT.regionL [0, 1, 2, 3, 4, 5, 6, 7, 8, 9, 10, 11, 12, 13, 14, 15, 16, 17, 18, 19, 20, 21, 22] (by kernel_rfl) ?_
      refine OpsT.pures (r := [1, 2, 3, 4, 5, 6, 7, 8, 9, 10, 11, 12, 13, 14, 15, 16, 17, 18, 19, 20, 21, 22]) [0] [1, 2, 5, 11] (S' := [(1, .int .i64 a1), (2, .pointer (some ⟨b1, 0, none⟩)), (5, .bool y3), (11, .pointer (some ⟨b1, 0, none⟩))]) (by kernel_rfl) ?_
      refine OpsT.cons (Does.yi (Yl.load (d := 12) (T := 22) (v := .slice A_a0_Map a0_Map.length c_a0_Map) (by kernel_rfl) (ldB ty22 (l := (([.slice A_a0_Map a0_Map.length c_a0_Map, .slice A_a0_Gone a0_Gone.length c_a0_Gone] : List Value))) (o := 0) (v := .slice A_a0_Map a0_Map.length c_a0_Map) (ent_refl _) (by kernel_rfl))) hI ?_)
      refine OpsT.pures (r := [5, 6, 7, 8, 9, 10, 11, 12, 13, 14, 15, 16, 17, 18, 19, 20, 21, 22]) [2, 3, 4] [1, 2, 5, 15] (S' := [(1, .int .i64 a1), (2, .pointer (some ⟨b1, 0, none⟩)), (5, .bool y3), (15, .bool (decide ((a0_Map.length : Int) > 60)))]) (by kernel_rfl) ?_
      by_cases hb6 : (decide ((a0_Map.length : Int) > 60)) = true
      · rw [if_pos hb6] at h1
        refine OpsT.keep [1, 2, 5, 15] (S' := [(1, .int .i64 a1), (2, .pointer (some ⟨b1, 0, none⟩)), (5, .bool y3), (15, .bool true)]) (by simp only [hb6]; kernel_rfl) ?_
        refine OpsT.pures (r := []) [5, 6, 7, 8, 9, 10, 11, 12, 13, 14, 15, 16, 17, 18, 19, 20, 21, 22] [1, 2, 5, 33] (S' := [(1, .int .i64 a1), (2, .pointer (some ⟨b1, 0, none⟩)), (5, .bool y3), (33, .bool true)]) (by kernel_rfl) ?_
        refine OpsT.done ?_
        have e := someS h1
        subst e
        exact Qn.thenJ fun a ha => ⟨true, rfl, ha.keep [1, 2, 5, 33] (by kernel_rfl), hI⟩
      · rw [if_neg hb6] at h1
        have hb6 : (decide ((a0_Map.length : Int) > 60)) = false := by simpa using hb6
        refine OpsT.keep [1, 2, 5, 15] (S' := [(1, .int .i64 a1), (2, .pointer (some ⟨b1, 0, none⟩)), (5, .bool y3), (15, .bool false)]) (by simp only [hb6]; kernel_rfl) ?_
        refine OpsT.pures (r := [6, 7, 8, 9, 10, 11, 12, 13, 14, 15, 16, 17, 18, 19, 20, 21, 22]) [5] [1, 2, 5, 15, 16] (S' := [(1, .int .i64 a1), (2, .pointer (some ⟨b1, 0, none⟩)), (5, .bool y3), (15, .bool false), (16, .pointer (some ⟨b1, 1, none⟩))]) (by kernel_rfl) ?_
        refine OpsT.cons (Does.yi (Yl.load (d := 17) (T := 23) (v := .slice A_a0_Gone a0_Gone.length c_a0_Gone) (by kernel_rfl) (ldB ty23 (l := (([.slice A_a0_Map a0_Map.length c_a0_Map, .slice A_a0_Gone a0_Gone.length c_a0_Gone] : List Value))) (o := 1) (v := .slice A_a0_Gone a0_Gone.length c_a0_Gone) (ent_refl _) (by kernel_rfl))) hI ?_)
        refine OpsT.pures (r := [11, 12, 13, 14, 15, 16, 17, 18, 19, 20, 21, 22]) [7, 8, 9, 10] [1, 2, 5, 21] (S' := [(1, .int .i64 a1), (2, .pointer (some ⟨b1, 0, none⟩)), (5, .bool y3), (21, .bool (decide ((a0_Gone.length : Int) > 60)))]) (by kernel_rfl) ?_
        by_cases hb7 : (decide ((a0_Gone.length : Int) > 60)) = true
        · rw [if_pos hb7] at h1
          refine OpsT.keep [1, 2, 5, 21] (S' := [(1, .int .i64 a1), (2, .pointer (some ⟨b1, 0, none⟩)), (5, .bool y3), (21, .bool true)]) (by simp only [hb7]; kernel_rfl) ?_
          refine OpsT.pures (r := []) [11, 12, 13, 14, 15, 16, 17, 18, 19, 20, 21, 22] [1, 2, 5, 33] (S' := [(1, .int .i64 a1), (2, .pointer (some ⟨b1, 0, none⟩)), (5, .bool y3), (33, .bool true)]) (by kernel_rfl) ?_
          refine OpsT.done ?_
          have e := someS h1
          subst e
          exact Qn.thenJ fun a ha => ⟨true, rfl, ha.keep [1, 2, 5, 33] (by kernel_rfl), hI⟩
        · rw [if_neg hb7] at h1
          have hb7 : (decide ((a0_Gone.length : Int) > 60)) = false := by simpa using hb7
          refine OpsT.keep [1, 2, 5, 21] (S' := [(1, .int .i64 a1), (2, .pointer (some ⟨b1, 0, none⟩)), (5, .bool y3), (21, .bool false)]) (by simp only [hb7]; kernel_rfl) ?_
          refine OpsT.pures (r := [15, 16, 17, 18, 19, 20, 21, 22]) [11, 12, 13, 14] [1, 2, 5, 25] (S' := [(1, .int .i64 a1), (2, .pointer (some ⟨b1, 0, none⟩)), (5, .bool y3), (25, .bool (decide (a1 < 8)))]) (by kernel_rfl) ?_
          by_cases hb8 : (decide (a1 < 8)) = true
          · rw [if_pos hb8] at h1
            refine OpsT.keep [1, 2, 5, 25] (S' := [(1, .int .i64 a1), (2, .pointer (some ⟨b1, 0, none⟩)), (5, .bool y3), (25, .bool true)]) (by simp only [hb8]; kernel_rfl) ?_
            refine OpsT.pures (r := []) [15, 16, 17, 18, 19, 20, 21, 22] [1, 2, 5, 33] (S' := [(1, .int .i64 a1), (2, .pointer (some ⟨b1, 0, none⟩)), (5, .bool y3), (33, .bool true)]) (by kernel_rfl) ?_
            refine OpsT.done ?_
            have e := someS h1
            subst e
            exact Qn.thenJ fun a ha => ⟨true, rfl, ha.keep [1, 2, 5, 33] (by kernel_rfl), hI⟩
          · rw [if_neg hb8] at h1
            have hb8 : (decide (a1 < 8)) = false := by simpa using hb8
            refine OpsT.keep [1, 2, 5, 25] (S' := [(1, .int .i64 a1), (2, .pointer (some ⟨b1, 0, none⟩)), (5, .bool y3), (25, .bool false)]) (by simp only [hb8]; kernel_rfl) ?_
            refine OpsT.pures (r := [19, 20, 21, 22]) [15, 16, 17, 18] [1, 2, 5, 29] (S' := [(1, .int .i64 a1), (2, .pointer (some ⟨b1, 0, none⟩)), (5, .bool y3), (29, .bool (decide (a1 ≥ 224)))]) (by kernel_rfl) ?_
            by_cases hb9 : (decide (a1 ≥ 224)) = true
            · rw [if_pos hb9] at h1
              refine OpsT.keep [1, 2, 5, 29] (S' := [(1, .int .i64 a1), (2, .pointer (some ⟨b1, 0, none⟩)), (5, .bool y3), (29, .bool true)]) (by simp only [hb9]; kernel_rfl) ?_
              refine OpsT.pures (r := []) [19, 20, 21, 22] [1, 2, 5, 33] (S' := [(1, .int .i64 a1), (2, .pointer (some ⟨b1, 0, none⟩)), (5, .bool y3), (33, .bool true)]) (by kernel_rfl) ?_
              refine OpsT.done ?_
              have e := someS h1
              subst e
              exact Qn.thenJ fun a ha => ⟨true, rfl, ha.keep [1, 2, 5, 33] (by kernel_rfl), hI⟩
            · rw [if_neg hb9] at h1
              have hb9 : (decide (a1 ≥ 224)) = false := by simpa using hb9
              refine OpsT.keep [1, 2, 5, 29] (S' := [(1, .int .i64 a1), (2, .pointer (some ⟨b1, 0, none⟩)), (5, .bool y3), (29, .bool false)]) (by simp only [hb9]; kernel_rfl) ?_
              refine OpsT.cons (Does.yi (Yl.load (d := 30) (T := 25) (v := .agg ((([.slice A_a0_Map a0_Map.length c_a0_Map, .slice A_a0_Gone a0_Gone.length c_a0_Gone] : List Value))).toArray) (by kernel_rfl) (ldBN ty25 (l := (([.slice A_a0_Map a0_Map.length c_a0_Map, .slice A_a0_Gone a0_Gone.length c_a0_Gone] : List Value))) (o := 0) (cs := (([.slice A_a0_Map a0_Map.length c_a0_Map, .slice A_a0_Gone a0_Gone.length c_a0_Gone] : List Value))) (ent_refl _) (by kernel_rfl) (whole _ _ (by kernel_rfl)))) hI ?_)
              obtain ⟨y11, hc10, h1⟩ := bindS h1
              try dsimp only at h1
              refine OpsT.cons (Does.call (d := some 31) (n := 14) (vs := [.agg ((([.slice A_a0_Map a0_Map.length c_a0_Map, .slice A_a0_Gone a0_Gone.length c_a0_Gone] : List Value))).toArray]) (by kernel_rfl) en14 (c14 w0 w _ _ hI A_a0_Map c_a0_Map a0_Map hr_a0_Map A_a0_Gone c_a0_Gone a0_Gone hr_a0_Gone _ hc10) ?_)
              rintro e w ⟨rfl, hI⟩
              refine ⟨_, rfl, ?_⟩
              refine OpsT.pures (r := []) [21, 22] [1, 2, 5, 33] (S' := [(1, .int .i64 a1), (2, .pointer (some ⟨b1, 0, none⟩)), (5, .bool y3), (33, .bool (!y11))]) (by kernel_rfl) ?_
              refine OpsT.done ?_
              have e := someS h1
              subst e
              exact Qn.thenJ fun a ha => ⟨!y11, rfl, ha.keep [1, 2, 5, 33] (by kernel_rfl), hI⟩
    ·
      rintro a w ⟨x5, rfl, ha, hI⟩
      try dsimp only at h0
      refine CodT.of ?_ ha
      by_cases hb12 : x5 = true
      · rw [if_pos hb12] at h0
        refine CodT.yes' (b := x5) (by kernel_rfl) hb12 ?_
        refine CodT.seq ?_
        refine CodT.regionL [0, 1] (by kernel_rfl) ?_
        refine OpsT.pures (r := []) [0, 1] [4] (S' := [(4, .bool y3)]) (by kernel_rfl) ?_
        refine OpsT.done ?_
        refine Qn.then ?_
        refine CodT.ret ?_
        refine Qn.ret_then ?_
        have hI := hI.drop
        have e := someS h0
        subst e
        refine Qn.keep [4] (S' := [(4, .bool y3)]) (by kernel_rfl) ?_
        exact post_ret (v := .bool y3) (fun a ha => RunRes.run (vs := [.bool y3]) (.tmp (t := 4) (by kernel_rfl) .nil) ha (by kernel_rfl)) ⟨rfl, hI⟩
      · rw [if_neg hb12] at h0
        refine CodT.no' (b := x5) (by kernel_rfl) (by simpa using hb12) ?_
        refine CodT.skip ?_
        refine Qn.then ?_
        refine CodT.seq ?_
        refine CodT.regionL [0, 1, 2, 3] (by kernel_rfl) ?_
        refine OpsT.cons (Does.yi (Yl.load (d := 35) (T := 25) (v := .agg ((([.slice A_a0_Map a0_Map.length c_a0_Map, .slice A_a0_Gone a0_Gone.length c_a0_Gone] : List Value))).toArray) (by kernel_rfl) (ldBN ty25 (l := (([.slice A_a0_Map a0_Map.length c_a0_Map, .slice A_a0_Gone a0_Gone.length c_a0_Gone] : List Value))) (o := 0) (cs := (([.slice A_a0_Map a0_Map.length c_a0_Map, .slice A_a0_Gone a0_Gone.length c_a0_Gone] : List Value))) (ent_refl _) (by kernel_rfl) (whole _ _ (by kernel_rfl)))) hI ?_)
        refine OpsT.pures (r := [2, 3]) [1] [1, 2, 5, 35, 36] (S' := [(1, .int .i64 a1), (2, .pointer (some ⟨b1, 0, none⟩)), (5, .bool y3), (35, .agg ((([.slice A_a0_Map a0_Map.length c_a0_Map, .slice A_a0_Gone a0_Gone.length c_a0_Gone] : List Value))).toArray), (36, .int .i64 a1)]) (by kernel_rfl) ?_
        obtain ⟨y14, hc13, h0⟩ := bindS h0
        try dsimp only at h0
        refine OpsT.cons (Does.call (d := some 37) (n := 17) (vs := [.agg ((([.slice A_a0_Map a0_Map.length c_a0_Map, .slice A_a0_Gone a0_Gone.length c_a0_Gone] : List Value))).toArray, .int .i64 a1]) (by kernel_rfl) en17 (c17 w0 w _ _ hI A_a0_Map c_a0_Map a0_Map hr_a0_Map A_a0_Gone c_a0_Gone a0_Gone hr_a0_Gone a1 _ hc13) ?_)
        rintro e w ⟨A15, cp16, rfl, hI⟩
        refine ⟨_, rfl, ?_⟩
        refine OpsT.pures (r := []) [3] [1, 2, 5, 6] (S' := [(1, .int .i64 a1), (2, .pointer (some ⟨b1, 0, none⟩)), (5, .bool y3), (6, .slice A15 y14.length cp16)]) (by kernel_rfl) ?_
        refine OpsT.done ?_
        refine Qn.then ?_
        refine CodT.seq ?_
        refine CodT.regionL [0, 1, 2, 3, 4] (by kernel_rfl) ?_
        refine OpsT.cons (Does.yi (Yl.load (d := 38) (T := 25) (v := .agg ((([.slice A_a0_Map a0_Map.length c_a0_Map, .slice A_a0_Gone a0_Gone.length c_a0_Gone] : List Value))).toArray) (by kernel_rfl) (ldBN ty25 (l := (([.slice A_a0_Map a0_Map.length c_a0_Map, .slice A_a0_Gone a0_Gone.length c_a0_Gone] : List Value))) (o := 0) (cs := (([.slice A_a0_Map a0_Map.length c_a0_Map, .slice A_a0_Gone a0_Gone.length c_a0_Gone] : List Value))) (pick2 _ _ _) (by kernel_rfl) (whole _ _ (by kernel_rfl)))) hI ?_)
        refine OpsT.pures (r := [3, 4]) [1, 2] [2, 5, 6, 38, 40] (S' := [(2, .pointer (some ⟨b1, 0, none⟩)), (5, .bool y3), (6, .slice A15 y14.length cp16), (38, .agg ((([.slice A_a0_Map a0_Map.length c_a0_Map, .slice A_a0_Gone a0_Gone.length c_a0_Gone] : List Value))).toArray), (40, .int .i64 (wi64 (a1 + 1)))]) (by kernel_rfl) ?_
        obtain ⟨y18, hc17, h0⟩ := bindS h0
        try dsimp only at h0
        refine OpsT.cons (Does.call (d := some 41) (n := 17) (vs := [.agg ((([.slice A_a0_Map a0_Map.length c_a0_Map, .slice A_a0_Gone a0_Gone.length c_a0_Gone] : List Value))).toArray, .int .i64 (wi64 (a1 + 1))]) (by kernel_rfl) en17 (c17 w0 w _ _ hI A_a0_Map c_a0_Map a0_Map hr_a0_Map A_a0_Gone c_a0_Gone a0_Gone hr_a0_Gone (wi64 (a1 + 1)) _ hc17) ?_)
        rintro e w ⟨A19, cp20, rfl, hI⟩
        refine ⟨_, rfl, ?_⟩
        refine OpsT.pures (r := []) [4] [2, 5, 6, 7] (S' := [(2, .pointer (some ⟨b1, 0, none⟩)), (5, .bool y3), (6, .slice A15 y14.length cp16), (7, .slice A19 y18.length cp20)]) (by kernel_rfl) ?_
        refine OpsT.done ?_
        refine Qn.then ?_
        obtain ⟨r1, h1, h0⟩ := bindS h0
        refine CodT.meet (fun a w => ∃ (x21 : Bool), x21 = r1 ∧ Fr 63 [(4, .bool x21)] a ∧ Inv w0 Z w A) ?_ ?_
        ·
          refine CodT.regionL [0, 1, 2, 3, 4, 5, 6, 7, 8, 9, 10, 11, 12, 13, 14, 15, 16, 17, 18, 19, 20, 21] (by kernel_rfl) ?_
          refine OpsT.pures (r := [2, 3, 4, 5, 6, 7, 8, 9, 10, 11, 12, 13, 14, 15, 16, 17, 18, 19, 20, 21]) [0, 1] [2, 6, 7, 43] (S' := [(2, .pointer (some ⟨b1, 0, none⟩)), (6, .slice A15 y14.length cp16), (7, .slice A19 y18.length cp20), (43, .bool y3)]) (by kernel_rfl) ?_
          by_cases hb22 : y3 = true
          · rw [if_pos hb22] at h1
            refine OpsT.keep [2, 6, 7, 43] (S' := [(2, .pointer (some ⟨b1, 0, none⟩)), (6, .slice A15 y14.length cp16), (7, .slice A19 y18.length cp20), (43, .bool true)]) (by simp only [hb22]; kernel_rfl) ?_
            refine OpsT.pures (r := [9, 10, 11, 12, 13, 14, 15, 16, 17, 18, 19, 20, 21]) [2, 3, 4, 5, 6, 7, 8] [2, 7, 50] (S' := [(2, .pointer (some ⟨b1, 0, none⟩)), (7, .slice A19 y18.length cp20), (50, .bool (decide ((y14.length : Int) ≥ (y18.length : Int))))]) (by kernel_rfl) ?_
            by_cases hb23 : (decide ((y14.length : Int) ≥ (y18.length : Int))) = true
            · rw [if_pos hb23] at h1
              refine OpsT.keep [2, 7, 50] (S' := [(2, .pointer (some ⟨b1, 0, none⟩)), (7, .slice A19 y18.length cp20), (50, .bool true)]) (by simp only [hb23]; kernel_rfl) ?_
              refine OpsT.pures (r := [14, 15, 16, 17, 18, 19, 20, 21]) [9, 10, 11, 12, 13] [2, 7, 55] (S' := [(2, .pointer (some ⟨b1, 0, none⟩)), (7, .slice A19 y18.length cp20), (55, .bool (decide ((y18.length : Int) ≥ 1)))]) (by kernel_rfl) ?_
              by_cases hb24 : (decide ((y18.length : Int) ≥ 1)) = true
              · rw [if_pos hb24] at h1
                refine OpsT.keep [2, 7, 55] (S' := [(2, .pointer (some ⟨b1, 0, none⟩)), (7, .slice A19 y18.length cp20), (55, .bool true)]) (by simp only [hb24]; kernel_rfl) ?_
                refine OpsT.cons (Does.yi (Yl.load (d := 56) (T := 25) (v := .agg ((([.slice A_a0_Map a0_Map.length c_a0_Map, .slice A_a0_Gone a0_Gone.length c_a0_Gone] : List Value))).toArray) (by kernel_rfl) (ldBN ty25 (l := (([.slice A_a0_Map a0_Map.length c_a0_Map, .slice A_a0_Gone a0_Gone.length c_a0_Gone] : List Value))) (o := 0) (cs := (([.slice A_a0_Map a0_Map.length c_a0_Map, .slice A_a0_Gone a0_Gone.length c_a0_Gone] : List Value))) (pick3 _ _ _ _) (by kernel_rfl) (whole _ _ (by kernel_rfl)))) hI ?_)
                obtain ⟨y26, hc25, h1⟩ := bindS h1
                try dsimp only at h1
                refine OpsT.cons (Does.call (d := some 57) (n := 17) (vs := [.agg ((([.slice A_a0_Map a0_Map.length c_a0_Map, .slice A_a0_Gone a0_Gone.length c_a0_Gone] : List Value))).toArray, .int .i64 224]) (by kernel_rfl) en17 (c17 w0 w _ _ hI A_a0_Map c_a0_Map a0_Map hr_a0_Map A_a0_Gone c_a0_Gone a0_Gone hr_a0_Gone 224 _ hc25) ?_)
                rintro e w ⟨A27, cp28, rfl, hI⟩
                refine ⟨_, rfl, ?_⟩
                refine OpsT.pures (r := []) [16, 17, 18, 19, 20, 21] [4] (S' := [(4, .bool (decide ((y26.length : Int) ≤ (y18.length : Int))))]) (by kernel_rfl) ?_
                refine OpsT.done ?_
                have hI := hI.drop
                have hI := hI.drop
                have hI := hI.drop
                have hI := hI.drop
                have e := someS h1
                subst e
                exact Qn.thenJ fun a ha => ⟨decide ((y26.length : Int) ≤ (y18.length : Int)), rfl, ha.keep [4] (by kernel_rfl), hI⟩
              · rw [if_neg hb24] at h1
                have hb24 : (decide ((y18.length : Int) ≥ 1)) = false := by simpa using hb24
                refine OpsT.keep [2, 7, 55] (S' := [(2, .pointer (some ⟨b1, 0, none⟩)), (7, .slice A19 y18.length cp20), (55, .bool false)]) (by simp only [hb24]; kernel_rfl) ?_
                refine OpsT.pures (r := []) [14, 15, 16, 17, 18, 19, 20, 21] [4] (S' := [(4, .bool false)]) (by kernel_rfl) ?_
                refine OpsT.done ?_
                have hI := hI.drop
                have hI := hI.drop
                have hI := hI.drop
                have e := someS h1
                subst e
                exact Qn.thenJ fun a ha => ⟨false, rfl, ha.keep [4] (by kernel_rfl), hI⟩
            · rw [if_neg hb23] at h1
              have hb23 : (decide ((y14.length : Int) ≥ (y18.length : Int))) = false := by simpa using hb23
              refine OpsT.keep [2, 7, 50] (S' := [(2, .pointer (some ⟨b1, 0, none⟩)), (7, .slice A19 y18.length cp20), (50, .bool false)]) (by simp only [hb23]; kernel_rfl) ?_
              refine OpsT.pures (r := []) [9, 10, 11, 12, 13, 14, 15, 16, 17, 18, 19, 20, 21] [4] (S' := [(4, .bool false)]) (by kernel_rfl) ?_
              refine OpsT.done ?_
              have hI := hI.drop
              have hI := hI.drop
              have hI := hI.drop
              have e := someS h1
              subst e
              exact Qn.thenJ fun a ha => ⟨false, rfl, ha.keep [4] (by kernel_rfl), hI⟩
          · rw [if_neg hb22] at h1
            have hb22 : y3 = false := by simpa using hb22
            refine OpsT.keep [2, 6, 7, 43] (S' := [(2, .pointer (some ⟨b1, 0, none⟩)), (6, .slice A15 y14.length cp16), (7, .slice A19 y18.length cp20), (43, .bool false)]) (by simp only [hb22]; kernel_rfl) ?_
            refine OpsT.pures (r := []) [2, 3, 4, 5, 6, 7, 8, 9, 10, 11, 12, 13, 14, 15, 16, 17, 18, 19, 20, 21] [4] (S' := [(4, .bool false)]) (by kernel_rfl) ?_
            refine OpsT.done ?_
            have hI := hI.drop
            have hI := hI.drop
            have hI := hI.drop
            have e := someS h1
            subst e
            exact Qn.thenJ fun a ha => ⟨false, rfl, ha.keep [4] (by kernel_rfl), hI⟩
        ·
          rintro a w ⟨x21, rfl, ha, hI⟩
          try dsimp only at h0
          refine CodT.of ?_ ha
          refine CodT.ret ?_
          have e := someS h0
          subst e
          refine Qn.keep [4] (S' := [(4, .bool x21)]) (by kernel_rfl) ?_
          exact post_ret (v := .bool x21) (fun a ha => RunRes.run (vs := [.bool x21]) (.tmp (t := 4) (by kernel_rfl) .nil) ha (by kernel_rfl)) ⟨rfl, hI⟩
end Go.Cen
