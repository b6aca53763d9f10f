/- The walk of the law RootPuts, printed by a program of ours. -/
import Derived.Test.YthdoklobbcedcabWx4
set_option linter.unusedVariables false
set_option linter.unusedSimpArgs false
namespace Go.Cen
set_option maxRecDepth 100000 in
set_option maxHeartbeats 4000000 in
/-- cenotaph/cenotaphlaw15.RootPuts -/
theorem c3 (w0 w : World) (Z : Hp) (A : HP) (hI : Inv w0 Z w A) (A_a0_Map : Option Addr) (c_a0_Map : Nat) (a0_Map : (List RootEntry)) (hr_a0_Map : RdS Z c_RootEntry 4 A_a0_Map c_a0_Map a0_Map) (A_a0_Gone : Option Addr) (c_a0_Gone : Nat) (a0_Gone : (List Int)) (hr_a0_Gone : RdS Z (cI .i64) 1 A_a0_Gone c_a0_Gone a0_Gone) (A_a1_Map : Option Addr) (c_a1_Map : Nat) (a1_Map : (List RootEntry)) (hr_a1_Map : RdS Z c_RootEntry 4 A_a1_Map c_a1_Map a1_Map) (A_a1_Gone : Option Addr) (c_a1_Gone : Nat) (a1_Gone : (List Int)) (hr_a1_Gone : RdS Z (cI .i64) 1 A_a1_Gone c_a1_Gone a1_Gone) (a2 : Int) (r : Bool) (h0 : law15_RootPuts a0_Map a0_Gone a1_Map a1_Gone a2 = some r) :
    Calls prog 3 #[.agg ((([.slice A_a0_Map a0_Map.length c_a0_Map, .slice A_a0_Gone a0_Gone.length c_a0_Gone] : List Value))).toArray, .agg ((([.slice A_a1_Map a1_Map.length c_a1_Map, .slice A_a1_Gone a1_Gone.length c_a1_Gone] : List Value))).toArray, .int .i64 a2] w (fun e w' => e = .returned (.bool r) ∧ Inv w0 Z w' A) := by
  have e4 := calls_intro (R := (fun e w' => e = .returned (.bool r) ∧ Inv w0 Z w' A)) (w := w) (args := [.agg ((([.slice A_a0_Map a0_Map.length c_a0_Map, .slice A_a0_Gone a0_Gone.length c_a0_Gone] : List Value))).toArray, .agg ((([.slice A_a1_Map a1_Map.length c_a1_Map, .slice A_a1_Gone a1_Gone.length c_a1_Gone] : List Value))).toArray, .int .i64 a2]) (fn := Go.Proofs.Try.f3) 68 Go.Proofs.Try.func3 (by rfl) Go.Proofs.Try.ntmps3 (by kernel_rfl)
  refine e4 ?_
  clear e4
  unfold law15_RootPuts at h0
  refine CodT.seq ?_
  refine CodT.regionL [0, 1, 2] (by kernel_rfl) ?_
  refine OpsT.cons (Does.boxL (d := 3) (T := 25) (v := .agg ((([.slice A_a0_Map a0_Map.length c_a0_Map, .slice A_a0_Gone a0_Gone.length c_a0_Gone] : List Value))).toArray) ((([.slice A_a0_Map a0_Map.length c_a0_Map, .slice A_a0_Gone a0_Gone.length c_a0_Gone] : List Value))) (by kernel_rfl) hI (by kernel_rfl) ?_)
  intro b1 w hI
  refine OpsT.cons (Does.boxL (d := 4) (T := 25) (v := .agg ((([.slice A_a1_Map a1_Map.length c_a1_Map, .slice A_a1_Gone a1_Gone.length c_a1_Gone] : List Value))).toArray) ((([.slice A_a1_Map a1_Map.length c_a1_Map, .slice A_a1_Gone a1_Gone.length c_a1_Gone] : List Value))) (by kernel_rfl) hI (by kernel_rfl) ?_)
  intro b2 w hI
  refine OpsT.pures (r := []) [2] [2, 3, 4] (S' := [(2, .int .i64 a2), (3, .pointer (some ⟨b1, 0, none⟩)), (4, .pointer (some ⟨b2, 0, none⟩))]) (by kernel_rfl) ?_
  refine OpsT.done ?_
  refine Qn.then ?_
  refine CodT.seq ?_
  refine CodT.regionL [0, 1] (by kernel_rfl) ?_
  obtain ⟨y4, hc3, h0⟩ := bindS h0
  try dsimp only at h0
  refine OpsT.cons (Does.call (d := some 10) (n := 10) (vs := []) (by kernel_rfl) en10 (c10 w0 w _ _ hI _ hc3) ?_)
  rintro e w ⟨rfl, hI⟩
  refine ⟨_, rfl, ?_⟩
  refine OpsT.pures (r := []) [1] [2, 3, 4, 7] (S' := [(2, .int .i64 a2), (3, .pointer (some ⟨b1, 0, none⟩)), (4, .pointer (some ⟨b2, 0, none⟩)), (7, .bool y4)]) (by kernel_rfl) ?_
  refine OpsT.done ?_
  refine Qn.then ?_
  refine CodT.seq ?_
  refine CodT.seq ?_
  refine CodT.regionL [0, 1] (by kernel_rfl) ?_
  refine OpsT.pures (r := []) [0, 1] [2, 3, 4, 7, 12] (S' := [(2, .int .i64 a2), (3, .pointer (some ⟨b1, 0, none⟩)), (4, .pointer (some ⟨b2, 0, none⟩)), (7, .bool y4), (12, .bool (!y4))]) (by kernel_rfl) ?_
  refine OpsT.done ?_
  refine Qn.then ?_
  by_cases hb5 : (!y4) = true
  · rw [if_pos hb5] at h0
    refine CodT.yes' (b := !y4) (by kernel_rfl) hb5 ?_
    refine CodT.seq ?_
    refine CodT.regionL [0] (by kernel_rfl) ?_
    refine OpsT.pures (r := []) [0] [6] (S' := [(6, .bool false)]) (by kernel_rfl) ?_
    refine OpsT.done ?_
    refine Qn.then ?_
    refine CodT.ret ?_
    refine Qn.ret_then ?_
    have hI := hI.drop
    have hI := hI.drop
    have e := someS h0
    subst e
    refine Qn.keep [6] (S' := [(6, .bool false)]) (by kernel_rfl) ?_
    exact post_ret (v := .bool false) (fun a ha => RunRes.run (vs := [.bool false]) (.tmp (t := 6) (by kernel_rfl) .nil) ha (by kernel_rfl)) ⟨rfl, hI⟩
  · rw [if_neg hb5] at h0
    refine CodT.no' (b := !y4) (by kernel_rfl) (by simpa using hb5) ?_
    refine CodT.skip ?_
    refine Qn.then ?_
    refine CodT.seq ?_
    obtain ⟨r1, h1, h0⟩ := bindS h0
    refine CodT.meet (fun a w => ∃ (x6 : Bool), x6 = r1 ∧ Fr 68 [(2, .int .i64 a2), (3, .pointer (some ⟨b1, 0, none⟩)), (4, .pointer (some ⟨b2, 0, none⟩)), (7, .bool y4), (34, .bool x6)] a ∧ Inv w0 Z w (star (pt b2 (.cells ((([.slice A_a1_Map a1_Map.length c_a1_Map, .slice A_a1_Gone a1_Gone.length c_a1_Gone] : List Value))).toArray 25 (0, 0))) (star (pt b1 (.cells ((([.slice A_a0_Map a0_Map.length c_a0_Map, .slice A_a0_Gone a0_Gone.length c_a0_Gone] : List Value))).toArray 25 (0, 0))) A))) ?_ ?_
    ·
      refine CodT.regionL [0, 1, 2, 3, 4, 5, 6, 7, 8, 9, 10, 11, 12, 13, 14, 15, 16, 17, 18, 19, 20, 21] (by kernel_rfl) ?_
      refine OpsT.pures (r := [1, 2, 3, 4, 5, 6, 7, 8, 9, 10, 11, 12, 13, 14, 15, 16, 17, 18, 19, 20, 21]) [0] [2, 3, 4, 7, 13] (S' := [(2, .int .i64 a2), (3, .pointer (some ⟨b1, 0, none⟩)), (4, .pointer (some ⟨b2, 0, none⟩)), (7, .bool y4), (13, .pointer (some ⟨b1, 0, none⟩))]) (by kernel_rfl) ?_
      refine OpsT.cons (Does.yi (Yl.load (d := 14) (T := 22) (v := .slice A_a0_Map a0_Map.length c_a0_Map) (by kernel_rfl) (ldB ty22 (l := (([.slice A_a0_Map a0_Map.length c_a0_Map, .slice A_a0_Gone a0_Gone.length c_a0_Gone] : List Value))) (o := 0) (v := .slice A_a0_Map a0_Map.length c_a0_Map) (pick2 _ _ _) (by kernel_rfl))) hI ?_)
      refine OpsT.pures (r := [5, 6, 7, 8, 9, 10, 11, 12, 13, 14, 15, 16, 17, 18, 19, 20, 21]) [2, 3, 4] [2, 3, 4, 7, 17] (S' := [(2, .int .i64 a2), (3, .pointer (some ⟨b1, 0, none⟩)), (4, .pointer (some ⟨b2, 0, none⟩)), (7, .bool y4), (17, .bool (decide ((a0_Map.length : Int) > 60)))]) (by kernel_rfl) ?_
      by_cases hb7 : (decide ((a0_Map.length : Int) > 60)) = true
      · rw [if_pos hb7] at h1
        refine OpsT.keep [2, 3, 4, 7, 17] (S' := [(2, .int .i64 a2), (3, .pointer (some ⟨b1, 0, none⟩)), (4, .pointer (some ⟨b2, 0, none⟩)), (7, .bool y4), (17, .bool true)]) (by simp only [hb7]; kernel_rfl) ?_
        refine OpsT.pures (r := []) [5, 6, 7, 8, 9, 10, 11, 12, 13, 14, 15, 16, 17, 18, 19, 20, 21] [2, 3, 4, 7, 34] (S' := [(2, .int .i64 a2), (3, .pointer (some ⟨b1, 0, none⟩)), (4, .pointer (some ⟨b2, 0, none⟩)), (7, .bool y4), (34, .bool true)]) (by kernel_rfl) ?_
        refine OpsT.done ?_
        have e := someS h1
        subst e
        exact Qn.thenJ fun a ha => ⟨true, rfl, ha.keep [2, 3, 4, 7, 34] (by kernel_rfl), hI⟩
      · rw [if_neg hb7] at h1
        have hb7 : (decide ((a0_Map.length : Int) > 60)) = false := by simpa using hb7
        refine OpsT.keep [2, 3, 4, 7, 17] (S' := [(2, .int .i64 a2), (3, .pointer (some ⟨b1, 0, none⟩)), (4, .pointer (some ⟨b2, 0, none⟩)), (7, .bool y4), (17, .bool false)]) (by simp only [hb7]; kernel_rfl) ?_
        refine OpsT.pures (r := [6, 7, 8, 9, 10, 11, 12, 13, 14, 15, 16, 17, 18, 19, 20, 21]) [5] [2, 3, 4, 7, 17, 18] (S' := [(2, .int .i64 a2), (3, .pointer (some ⟨b1, 0, none⟩)), (4, .pointer (some ⟨b2, 0, none⟩)), (7, .bool y4), (17, .bool false), (18, .pointer (some ⟨b1, 1, none⟩))]) (by kernel_rfl) ?_
        refine OpsT.cons (Does.yi (Yl.load (d := 19) (T := 23) (v := .slice A_a0_Gone a0_Gone.length c_a0_Gone) (by kernel_rfl) (ldB ty23 (l := (([.slice A_a0_Map a0_Map.length c_a0_Map, .slice A_a0_Gone a0_Gone.length c_a0_Gone] : List Value))) (o := 1) (v := .slice A_a0_Gone a0_Gone.length c_a0_Gone) (pick2 _ _ _) (by kernel_rfl))) hI ?_)
        refine OpsT.pures (r := [11, 12, 13, 14, 15, 16, 17, 18, 19, 20, 21]) [7, 8, 9, 10] [2, 3, 4, 7, 23] (S' := [(2, .int .i64 a2), (3, .pointer (some ⟨b1, 0, none⟩)), (4, .pointer (some ⟨b2, 0, none⟩)), (7, .bool y4), (23, .bool (decide ((a0_Gone.length : Int) > 60)))]) (by kernel_rfl) ?_
        by_cases hb8 : (decide ((a0_Gone.length : Int) > 60)) = true
        · rw [if_pos hb8] at h1
          refine OpsT.keep [2, 3, 4, 7, 23] (S' := [(2, .int .i64 a2), (3, .pointer (some ⟨b1, 0, none⟩)), (4, .pointer (some ⟨b2, 0, none⟩)), (7, .bool y4), (23, .bool true)]) (by simp only [hb8]; kernel_rfl) ?_
          refine OpsT.pures (r := []) [11, 12, 13, 14, 15, 16, 17, 18, 19, 20, 21] [2, 3, 4, 7, 34] (S' := [(2, .int .i64 a2), (3, .pointer (some ⟨b1, 0, none⟩)), (4, .pointer (some ⟨b2, 0, none⟩)), (7, .bool y4), (34, .bool true)]) (by kernel_rfl) ?_
          refine OpsT.done ?_
          have e := someS h1
          subst e
          exact Qn.thenJ fun a ha => ⟨true, rfl, ha.keep [2, 3, 4, 7, 34] (by kernel_rfl), hI⟩
        · rw [if_neg hb8] at h1
          have hb8 : (decide ((a0_Gone.length : Int) > 60)) = false := by simpa using hb8
          refine OpsT.keep [2, 3, 4, 7, 23] (S' := [(2, .int .i64 a2), (3, .pointer (some ⟨b1, 0, none⟩)), (4, .pointer (some ⟨b2, 0, none⟩)), (7, .bool y4), (23, .bool false)]) (by simp only [hb8]; kernel_rfl) ?_
          refine OpsT.pures (r := [12, 13, 14, 15, 16, 17, 18, 19, 20, 21]) [11] [2, 3, 4, 7, 23, 24] (S' := [(2, .int .i64 a2), (3, .pointer (some ⟨b1, 0, none⟩)), (4, .pointer (some ⟨b2, 0, none⟩)), (7, .bool y4), (23, .bool false), (24, .pointer (some ⟨b2, 0, none⟩))]) (by kernel_rfl) ?_
          refine OpsT.cons (Does.yi (Yl.load (d := 25) (T := 22) (v := .slice A_a1_Map a1_Map.length c_a1_Map) (by kernel_rfl) (ldB ty22 (l := (([.slice A_a1_Map a1_Map.length c_a1_Map, .slice A_a1_Gone a1_Gone.length c_a1_Gone] : List Value))) (o := 0) (v := .slice A_a1_Map a1_Map.length c_a1_Map) (ent_refl _) (by kernel_rfl))) hI ?_)
          refine OpsT.pures (r := [17, 18, 19, 20, 21]) [13, 14, 15, 16] [2, 3, 4, 7, 29] (S' := [(2, .int .i64 a2), (3, .pointer (some ⟨b1, 0, none⟩)), (4, .pointer (some ⟨b2, 0, none⟩)), (7, .bool y4), (29, .bool (decide ((a1_Map.length : Int) > 60)))]) (by kernel_rfl) ?_
          by_cases hb9 : (decide ((a1_Map.length : Int) > 60)) = true
          · rw [if_pos hb9] at h1
            refine OpsT.keep [2, 3, 4, 7, 29] (S' := [(2, .int .i64 a2), (3, .pointer (some ⟨b1, 0, none⟩)), (4, .pointer (some ⟨b2, 0, none⟩)), (7, .bool y4), (29, .bool true)]) (by simp only [hb9]; kernel_rfl) ?_
            refine OpsT.pures (r := []) [17, 18, 19, 20, 21] [2, 3, 4, 7, 34] (S' := [(2, .int .i64 a2), (3, .pointer (some ⟨b1, 0, none⟩)), (4, .pointer (some ⟨b2, 0, none⟩)), (7, .bool y4), (34, .bool true)]) (by kernel_rfl) ?_
            refine OpsT.done ?_
            have e := someS h1
            subst e
            exact Qn.thenJ fun a ha => ⟨true, rfl, ha.keep [2, 3, 4, 7, 34] (by kernel_rfl), hI⟩
          · rw [if_neg hb9] at h1
            have hb9 : (decide ((a1_Map.length : Int) > 60)) = false := by simpa using hb9
            refine OpsT.keep [2, 3, 4, 7, 29] (S' := [(2, .int .i64 a2), (3, .pointer (some ⟨b1, 0, none⟩)), (4, .pointer (some ⟨b2, 0, none⟩)), (7, .bool y4), (29, .bool false)]) (by simp only [hb9]; kernel_rfl) ?_
            refine OpsT.pures (r := [18, 19, 20, 21]) [17] [2, 3, 4, 7, 29, 30] (S' := [(2, .int .i64 a2), (3, .pointer (some ⟨b1, 0, none⟩)), (4, .pointer (some ⟨b2, 0, none⟩)), (7, .bool y4), (29, .bool false), (30, .pointer (some ⟨b2, 1, none⟩))]) (by kernel_rfl) ?_
            refine OpsT.cons (Does.yi (Yl.load (d := 31) (T := 23) (v := .slice A_a1_Gone a1_Gone.length c_a1_Gone) (by kernel_rfl) (ldB ty23 (l := (([.slice A_a1_Map a1_Map.length c_a1_Map, .slice A_a1_Gone a1_Gone.length c_a1_Gone] : List Value))) (o := 1) (v := .slice A_a1_Gone a1_Gone.length c_a1_Gone) (ent_refl _) (by kernel_rfl))) hI ?_)
            refine OpsT.pures (r := []) [19, 20, 21] [2, 3, 4, 7, 34] (S' := [(2, .int .i64 a2), (3, .pointer (some ⟨b1, 0, none⟩)), (4, .pointer (some ⟨b2, 0, none⟩)), (7, .bool y4), (34, .bool (decide ((a1_Gone.length : Int) > 60)))]) (by kernel_rfl) ?_
            refine OpsT.done ?_
            have e := someS h1
            subst e
            exact Qn.thenJ fun a ha => ⟨decide ((a1_Gone.length : Int) > 60), rfl, ha.keep [2, 3, 4, 7, 34] (by kernel_rfl), hI⟩
    ·
      rintro a w ⟨x6, rfl, ha, hI⟩
      try dsimp only at h0
      refine CodT.of ?_ ha
      by_cases hb10 : x6 = true
      · rw [if_pos hb10] at h0
        refine CodT.yes' (b := x6) (by kernel_rfl) hb10 ?_
        refine CodT.seq ?_
        refine CodT.regionL [0, 1] (by kernel_rfl) ?_
        refine OpsT.pures (r := []) [0, 1] [6] (S' := [(6, .bool y4)]) (by kernel_rfl) ?_
        refine OpsT.done ?_
        refine Qn.then ?_
        refine CodT.ret ?_
        refine Qn.ret_then ?_
        have hI := hI.drop
        have hI := hI.drop
        have e := someS h0
        subst e
        refine Qn.keep [6] (S' := [(6, .bool y4)]) (by kernel_rfl) ?_
        exact post_ret (v := .bool y4) (fun a ha => RunRes.run (vs := [.bool y4]) (.tmp (t := 6) (by kernel_rfl) .nil) ha (by kernel_rfl)) ⟨rfl, hI⟩
      · rw [if_neg hb10] at h0
        refine CodT.no' (b := x6) (by kernel_rfl) (by simpa using hb10) ?_
        refine CodT.skip ?_
        refine Qn.then ?_
        refine CodT.seq ?_
        refine CodT.regionL [0, 1, 2, 3] (by kernel_rfl) ?_
        refine OpsT.cons (Does.yi (Yl.load (d := 36) (T := 25) (v := .agg ((([.slice A_a0_Map a0_Map.length c_a0_Map, .slice A_a0_Gone a0_Gone.length c_a0_Gone] : List Value))).toArray) (by kernel_rfl) (ldBN ty25 (l := (([.slice A_a0_Map a0_Map.length c_a0_Map, .slice A_a0_Gone a0_Gone.length c_a0_Gone] : List Value))) (o := 0) (cs := (([.slice A_a0_Map a0_Map.length c_a0_Map, .slice A_a0_Gone a0_Gone.length c_a0_Gone] : List Value))) (pick2 _ _ _) (by kernel_rfl) (whole _ _ (by kernel_rfl)))) hI ?_)
        obtain ⟨⟨y12, y15⟩, hc11, h0⟩ := bindS h0
        try dsimp only at h0
        refine OpsT.cons (Does.call (d := some 37) (n := 12) (vs := [.agg ((([.slice A_a0_Map a0_Map.length c_a0_Map, .slice A_a0_Gone a0_Gone.length c_a0_Gone] : List Value))).toArray]) (by kernel_rfl) en12 (c12 w0 w _ _ hI A_a0_Map c_a0_Map a0_Map hr_a0_Map A_a0_Gone c_a0_Gone a0_Gone hr_a0_Gone _ hc11) ?_)
        rintro e w ⟨A13, cp14, A16, cp17, Z19, hle20, rfl, hr18, hI⟩
        refine ⟨_, rfl, ?_⟩
        obtain ⟨Z21, hle22, hr23, hI⟩ := ownS_freeze hI
        obtain ⟨y25, hc24, h0⟩ := bindS h0
        try dsimp only at h0
        refine OpsT.cons (Does.call (d := some 38) (n := 11) (vs := [.agg ((([.slice A13 y12.length cp14, .slice A16 y15.length cp17] : List Value))).toArray]) (by kernel_rfl) en11 (c11 w0 w _ _ hI A13 cp14 y12 hr23 A16 cp17 y15 (hr18.mono hle22) _ hc24) ?_)
        rintro e w ⟨rfl, hI⟩
        refine ⟨_, rfl, ?_⟩
        refine OpsT.pures (r := []) [3] [2, 3, 4, 7, 8] (S' := [(2, .int .i64 a2), (3, .pointer (some ⟨b1, 0, none⟩)), (4, .pointer (some ⟨b2, 0, none⟩)), (7, .bool y4), (8, .bool y25)]) (by kernel_rfl) ?_
        refine OpsT.done ?_
        refine Qn.then ?_
        refine CodT.seq ?_
        refine CodT.drawI (n := 6) [] (by kernel_rfl) (by kernel_rfl) hI ?_
        intro w hI
        refine GmT.r (i := 0) 2 (by kernel_rfl) (by kernel_rfl) (Yl.load (d := 39) (T := 25) (v := .agg ((([.slice A_a0_Map a0_Map.length c_a0_Map, .slice A_a0_Gone a0_Gone.length c_a0_Gone] : List Value))).toArray) (by kernel_rfl) (ldBN ty25 (l := (([.slice A_a0_Map a0_Map.length c_a0_Map, .slice A_a0_Gone a0_Gone.length c_a0_Gone] : List Value))) (o := 0) (cs := (([.slice A_a0_Map a0_Map.length c_a0_Map, .slice A_a0_Gone a0_Gone.length c_a0_Gone] : List Value))) (pick2 _ _ _) (by kernel_rfl) (whole _ _ (by kernel_rfl)))) hI ?_
        refine GmT.r (i := 2) 2 (by kernel_rfl) (by kernel_rfl) (Yl.load (d := 41) (T := 25) (v := .agg ((([.slice A_a1_Map a1_Map.length c_a1_Map, .slice A_a1_Gone a1_Gone.length c_a1_Gone] : List Value))).toArray) (by kernel_rfl) (ldBN ty25 (l := (([.slice A_a1_Map a1_Map.length c_a1_Map, .slice A_a1_Gone a1_Gone.length c_a1_Gone] : List Value))) (o := 0) (cs := (([.slice A_a1_Map a1_Map.length c_a1_Map, .slice A_a1_Gone a1_Gone.length c_a1_Gone] : List Value))) (ent_refl _) (by kernel_rfl) (whole _ _ (by kernel_rfl)))) hI ?_
        obtain ⟨⟨y27, y30⟩, hc26, h0⟩ := bindS h0
        try dsimp only at h0
        refine GmT.o (i := 1) (by kernel_rfl) (Does.call (d := some 40) (n := 12) (vs := [.agg ((([.slice A_a0_Map a0_Map.length c_a0_Map, .slice A_a0_Gone a0_Gone.length c_a0_Gone] : List Value))).toArray]) (by kernel_rfl) en12 (c12 w0 w _ _ hI A_a0_Map c_a0_Map a0_Map (hr_a0_Map.mono (Hp.le_trans hle20 hle22)) A_a0_Gone c_a0_Gone a0_Gone (hr_a0_Gone.mono (Hp.le_trans hle20 hle22)) _ hc26) ?_)
        rintro e w ⟨A28, cp29, A31, cp32, Z34, hle35, rfl, hr33, hI⟩
        refine ⟨_, rfl, ?_⟩
        have hC := hI
        have hC := hC.drop
        have hC := hC.weaken hle35
        refine ⟨fun _ _ => hC, ?_⟩
        obtain ⟨⟨y37, y40⟩, hc36, h0⟩ := bindS h0
        try dsimp only at h0
        refine GmT.o (i := 3) (by kernel_rfl) (Does.call (d := some 42) (n := 12) (vs := [.agg ((([.slice A_a1_Map a1_Map.length c_a1_Map, .slice A_a1_Gone a1_Gone.length c_a1_Gone] : List Value))).toArray]) (by kernel_rfl) en12 (c12 w0 w _ _ hI A_a1_Map c_a1_Map a1_Map (hr_a1_Map.mono (Hp.le_trans (Hp.le_trans hle20 hle22) hle35)) A_a1_Gone c_a1_Gone a1_Gone (hr_a1_Gone.mono (Hp.le_trans (Hp.le_trans hle20 hle22) hle35)) _ hc36) ?_)
        rintro e w ⟨A38, cp39, A41, cp42, Z44, hle45, rfl, hr43, hI⟩
        refine ⟨_, rfl, ?_⟩
        have hC := hI
        have hC := hC.drop
        have hC := hC.drop
        have hC := hC.weaken (Hp.le_trans hle35 hle45)
        refine ⟨fun _ _ => hC, ?_⟩
        have hI := hI.mono (pick2 _ _ _)
        obtain ⟨Z46, hle47, hr48, hI⟩ := ownS_freeze hI
        obtain ⟨Z49, hle50, hr51, hI⟩ := ownS_freeze hI
        obtain ⟨y53, hc52, h0⟩ := bindS h0
        try dsimp only at h0
        refine GmT.o (i := 4) (by kernel_rfl) (Does.call (d := some 43) (n := 13) (vs := [.agg ((([.slice A28 y27.length cp29, .slice A31 y30.length cp32] : List Value))).toArray, .agg ((([.slice A38 y37.length cp39, .slice A41 y40.length cp42] : List Value))).toArray]) (by kernel_rfl) en13 (c13 w0 w _ _ hI A28 cp29 y27 (hr48.mono hle50) A31 cp32 y30 (hr33.mono (Hp.le_trans (Hp.le_trans hle45 hle47) hle50)) A38 cp39 y37 hr51 A41 cp42 y40 (hr43.mono (Hp.le_trans hle47 hle50)) _ hc52) ?_)
        rintro e w ⟨rfl, hI⟩
        refine ⟨_, rfl, ?_⟩
        have hC := hI
        have hC := hC.weaken (Hp.le_trans (Hp.le_trans (Hp.le_trans hle35 hle45) hle47) hle50)
        refine ⟨fun _ _ => hC, ?_⟩
        refine GmT.p' 5 9 (.bool y53) (by kernel_rfl) (by kernel_rfl) ?_
        refine GmT.done (by kernel_rfl) ?_
        refine Qn.then ?_
        obtain ⟨r1, h1, h0⟩ := bindS h0
        refine CodT.meet (fun a w => ∃ (x56 : Bool) (Z54 : Hp), x56 = r1 ∧ Fr 68 [(6, .bool x56)] a ∧ Inv w0 Z54 w A ∧ Z49.le Z54) ?_ ?_
        ·
          refine CodT.drawI (n := 25) [] (by kernel_rfl) (by kernel_rfl) hI ?_
          intro w hI
          refine GmT.p' 0 44 (.bool y4) (by kernel_rfl) (by kernel_rfl) ?_
          refine GmT.p' 1 45 (.bool y4) (by kernel_rfl) (by kernel_rfl) ?_
          by_cases hb57 : y4 = true
          · rw [if_pos hb57] at h1
            refine GmT.keep [2, 3, 4, 8, 9, 45] (S' := [(2, .int .i64 a2), (3, .pointer (some ⟨b1, 0, none⟩)), (4, .pointer (some ⟨b2, 0, none⟩)), (8, .bool y25), (9, .bool y53), (45, .bool true)]) (by simp only [hb57]; kernel_rfl) ?_
            refine GmT.p' 4 48 (.bool y25) (by kernel_rfl) (by kernel_rfl) ?_
            refine GmT.r (i := 2) 2 (by kernel_rfl) (by kernel_rfl) (Yl.load (d := 46) (T := 25) (v := .agg ((([.slice A_a0_Map a0_Map.length c_a0_Map, .slice A_a0_Gone a0_Gone.length c_a0_Gone] : List Value))).toArray) (by kernel_rfl) (ldBN ty25 (l := (([.slice A_a0_Map a0_Map.length c_a0_Map, .slice A_a0_Gone a0_Gone.length c_a0_Gone] : List Value))) (o := 0) (cs := (([.slice A_a0_Map a0_Map.length c_a0_Map, .slice A_a0_Gone a0_Gone.length c_a0_Gone] : List Value))) (pick2 _ _ _) (by kernel_rfl) (whole _ _ (by kernel_rfl)))) hI ?_
            obtain ⟨y59, hc58, h1⟩ := bindS h1
            try dsimp only at h1
            refine GmT.o (i := 3) (by kernel_rfl) (Does.call (d := some 47) (n := 14) (vs := [.agg ((([.slice A_a0_Map a0_Map.length c_a0_Map, .slice A_a0_Gone a0_Gone.length c_a0_Gone] : List Value))).toArray]) (by kernel_rfl) en14 (c14 w0 w _ _ hI A_a0_Map c_a0_Map a0_Map (hr_a0_Map.mono (Hp.le_trans (Hp.le_trans (Hp.le_trans (Hp.le_trans (Hp.le_trans hle20 hle22) hle35) hle45) hle47) hle50)) A_a0_Gone c_a0_Gone a0_Gone (hr_a0_Gone.mono (Hp.le_trans (Hp.le_trans (Hp.le_trans (Hp.le_trans (Hp.le_trans hle20 hle22) hle35) hle45) hle47) hle50)) _ hc58) ?_)
            rintro e w ⟨rfl, hI⟩
            refine ⟨_, rfl, ?_⟩
            refine ⟨fun _ _ => hI, ?_⟩
            refine GmT.p' 5 49 (.bool (y59 == y25)) (by kernel_rfl) (by kernel_rfl) ?_
            refine GmT.p' 6 50 (.bool (y59 == y25)) (by kernel_rfl) (by kernel_rfl) ?_
            refine GmT.p' 7 51 (.bool (y59 == y25)) (by kernel_rfl) (by kernel_rfl) ?_
            by_cases hb60 : (y59 == y25) = true
            · rw [if_pos hb60] at h1
              refine GmT.keep [2, 3, 4, 9, 51] (S' := [(2, .int .i64 a2), (3, .pointer (some ⟨b1, 0, none⟩)), (4, .pointer (some ⟨b2, 0, none⟩)), (9, .bool y53), (51, .bool true)]) (by simp only [hb60]; kernel_rfl) ?_
              refine GmT.p' 11 55 (.bool y53) (by kernel_rfl) (by kernel_rfl) ?_
              refine GmT.r (i := 8) 2 (by kernel_rfl) (by kernel_rfl) (Yl.load (d := 52) (T := 25) (v := .agg ((([.slice A_a0_Map a0_Map.length c_a0_Map, .slice A_a0_Gone a0_Gone.length c_a0_Gone] : List Value))).toArray) (by kernel_rfl) (ldBN ty25 (l := (([.slice A_a0_Map a0_Map.length c_a0_Map, .slice A_a0_Gone a0_Gone.length c_a0_Gone] : List Value))) (o := 0) (cs := (([.slice A_a0_Map a0_Map.length c_a0_Map, .slice A_a0_Gone a0_Gone.length c_a0_Gone] : List Value))) (pick2 _ _ _) (by kernel_rfl) (whole _ _ (by kernel_rfl)))) hI ?_
              refine GmT.r (i := 9) 2 (by kernel_rfl) (by kernel_rfl) (Yl.load (d := 53) (T := 25) (v := .agg ((([.slice A_a1_Map a1_Map.length c_a1_Map, .slice A_a1_Gone a1_Gone.length c_a1_Gone] : List Value))).toArray) (by kernel_rfl) (ldBN ty25 (l := (([.slice A_a1_Map a1_Map.length c_a1_Map, .slice A_a1_Gone a1_Gone.length c_a1_Gone] : List Value))) (o := 0) (cs := (([.slice A_a1_Map a1_Map.length c_a1_Map, .slice A_a1_Gone a1_Gone.length c_a1_Gone] : List Value))) (ent_refl _) (by kernel_rfl) (whole _ _ (by kernel_rfl)))) hI ?_
              obtain ⟨y62, hc61, h1⟩ := bindS h1
              try dsimp only at h1
              refine GmT.o (i := 10) (by kernel_rfl) (Does.call (d := some 54) (n := 15) (vs := [.agg ((([.slice A_a0_Map a0_Map.length c_a0_Map, .slice A_a0_Gone a0_Gone.length c_a0_Gone] : List Value))).toArray, .agg ((([.slice A_a1_Map a1_Map.length c_a1_Map, .slice A_a1_Gone a1_Gone.length c_a1_Gone] : List Value))).toArray]) (by kernel_rfl) en15 (c15 w0 w _ _ hI A_a0_Map c_a0_Map a0_Map (hr_a0_Map.mono (Hp.le_trans (Hp.le_trans (Hp.le_trans (Hp.le_trans (Hp.le_trans hle20 hle22) hle35) hle45) hle47) hle50)) A_a0_Gone c_a0_Gone a0_Gone (hr_a0_Gone.mono (Hp.le_trans (Hp.le_trans (Hp.le_trans (Hp.le_trans (Hp.le_trans hle20 hle22) hle35) hle45) hle47) hle50)) A_a1_Map c_a1_Map a1_Map (hr_a1_Map.mono (Hp.le_trans (Hp.le_trans (Hp.le_trans (Hp.le_trans (Hp.le_trans hle20 hle22) hle35) hle45) hle47) hle50)) A_a1_Gone c_a1_Gone a1_Gone (hr_a1_Gone.mono (Hp.le_trans (Hp.le_trans (Hp.le_trans (Hp.le_trans (Hp.le_trans hle20 hle22) hle35) hle45) hle47) hle50)) _ hc61) ?_)
              rintro e w ⟨rfl, hI⟩
              refine ⟨_, rfl, ?_⟩
              refine ⟨fun _ _ => hI, ?_⟩
              refine GmT.p' 12 56 (.bool (y62 == y53)) (by kernel_rfl) (by kernel_rfl) ?_
              refine GmT.p' 13 57 (.bool (y62 == y53)) (by kernel_rfl) (by kernel_rfl) ?_
              refine GmT.p' 14 58 (.bool (y62 == y53)) (by kernel_rfl) (by kernel_rfl) ?_
              by_cases hb63 : (y62 == y53) = true
              · rw [if_pos hb63] at h1
                refine GmT.keep [2, 3, 58] (S' := [(2, .int .i64 a2), (3, .pointer (some ⟨b1, 0, none⟩)), (58, .bool true)]) (by simp only [hb63]; kernel_rfl) ?_
                refine GmT.p' 16 60 (.int .i64 a2) (by kernel_rfl) (by kernel_rfl) ?_
                refine GmT.p' 20 64 (.int .i64 a2) (by kernel_rfl) (by kernel_rfl) ?_
                refine GmT.r (i := 15) 2 (by kernel_rfl) (by kernel_rfl) (Yl.load (d := 59) (T := 25) (v := .agg ((([.slice A_a0_Map a0_Map.length c_a0_Map, .slice A_a0_Gone a0_Gone.length c_a0_Gone] : List Value))).toArray) (by kernel_rfl) (ldBN ty25 (l := (([.slice A_a0_Map a0_Map.length c_a0_Map, .slice A_a0_Gone a0_Gone.length c_a0_Gone] : List Value))) (o := 0) (cs := (([.slice A_a0_Map a0_Map.length c_a0_Map, .slice A_a0_Gone a0_Gone.length c_a0_Gone] : List Value))) (pick2 _ _ _) (by kernel_rfl) (whole _ _ (by kernel_rfl)))) hI ?_
                refine GmT.r (i := 18) 2 (by kernel_rfl) (by kernel_rfl) (Yl.load (d := 62) (T := 25) (v := .agg ((([.slice A_a0_Map a0_Map.length c_a0_Map, .slice A_a0_Gone a0_Gone.length c_a0_Gone] : List Value))).toArray) (by kernel_rfl) (ldBN ty25 (l := (([.slice A_a0_Map a0_Map.length c_a0_Map, .slice A_a0_Gone a0_Gone.length c_a0_Gone] : List Value))) (o := 0) (cs := (([.slice A_a0_Map a0_Map.length c_a0_Map, .slice A_a0_Gone a0_Gone.length c_a0_Gone] : List Value))) (pick2 _ _ _) (by kernel_rfl) (whole _ _ (by kernel_rfl)))) hI ?_
                obtain ⟨y65, hc64, h1⟩ := bindS h1
                try dsimp only at h1
                refine GmT.o (i := 17) (by kernel_rfl) (Does.call (d := some 61) (n := 17) (vs := [.agg ((([.slice A_a0_Map a0_Map.length c_a0_Map, .slice A_a0_Gone a0_Gone.length c_a0_Gone] : List Value))).toArray, .int .i64 a2]) (by kernel_rfl) en17 (c17 w0 w _ _ hI A_a0_Map c_a0_Map a0_Map (hr_a0_Map.mono (Hp.le_trans (Hp.le_trans (Hp.le_trans (Hp.le_trans (Hp.le_trans hle20 hle22) hle35) hle45) hle47) hle50)) A_a0_Gone c_a0_Gone a0_Gone (hr_a0_Gone.mono (Hp.le_trans (Hp.le_trans (Hp.le_trans (Hp.le_trans (Hp.le_trans hle20 hle22) hle35) hle45) hle47) hle50)) a2 _ hc64) ?_)
                rintro e w ⟨A66, cp67, rfl, hI⟩
                refine ⟨_, rfl, ?_⟩
                have hC := hI
                have hC := hC.drop
                refine ⟨fun _ _ => hC, ?_⟩
                obtain ⟨⟨y69, y72⟩, hc68, h1⟩ := bindS h1
                try dsimp only at h1
                refine GmT.o (i := 19) (by kernel_rfl) (Does.call (d := some 63) (n := 12) (vs := [.agg ((([.slice A_a0_Map a0_Map.length c_a0_Map, .slice A_a0_Gone a0_Gone.length c_a0_Gone] : List Value))).toArray]) (by kernel_rfl) en12 (c12 w0 w _ _ hI A_a0_Map c_a0_Map a0_Map (hr_a0_Map.mono (Hp.le_trans (Hp.le_trans (Hp.le_trans (Hp.le_trans (Hp.le_trans hle20 hle22) hle35) hle45) hle47) hle50)) A_a0_Gone c_a0_Gone a0_Gone (hr_a0_Gone.mono (Hp.le_trans (Hp.le_trans (Hp.le_trans (Hp.le_trans (Hp.le_trans hle20 hle22) hle35) hle45) hle47) hle50)) _ hc68) ?_)
                rintro e w ⟨A70, cp71, A73, cp74, Z76, hle77, rfl, hr75, hI⟩
                refine ⟨_, rfl, ?_⟩
                have hC := hI
                have hC := hC.drop
                have hC := hC.drop
                have hC := hC.weaken hle77
                refine ⟨fun _ _ => hC, ?_⟩
                obtain ⟨Z78, hle79, hr80, hI⟩ := ownS_freeze hI
                obtain ⟨y82, hc81, h1⟩ := bindS h1
                try dsimp only at h1
                refine GmT.o (i := 21) (by kernel_rfl) (Does.call (d := some 65) (n := 18) (vs := [.agg ((([.slice A70 y69.length cp71, .slice A73 y72.length cp74] : List Value))).toArray, .int .i64 a2]) (by kernel_rfl) en18 (c18 w0 w _ _ hI A70 cp71 y69 hr80 A73 cp74 y72 (hr75.mono hle79) a2 _ hc81) ?_)
                rintro e w ⟨A83, cp84, rfl, hI⟩
                refine ⟨_, rfl, ?_⟩
                have hC := hI
                have hC := hC.drop
                have hC := hC.drop
                have hC := hC.weaken (Hp.le_trans hle77 hle79)
                refine ⟨fun _ _ => hC, ?_⟩
                have hI := hI.mono (pick2 _ _ _)
                obtain ⟨Z85, hle86, hr87, hI⟩ := ownS_freeze hI
                obtain ⟨Z88, hle89, hr90, hI⟩ := ownS_freeze hI
                obtain ⟨y92, hc91, h1⟩ := bindS h1
                try dsimp only at h1
                refine GmT.o (i := 22) (by kernel_rfl) (Does.call (d := some 66) (n := 16) (vs := [.slice A66 y65.length cp67, .slice A83 y82.length cp84]) (by kernel_rfl) en16 (c16 w0 w _ _ hI A66 cp67 y65 (hr87.mono hle89) A83 cp84 y82 hr90 _ hc91) ?_)
                rintro e w ⟨rfl, hI⟩
                refine ⟨_, rfl, ?_⟩
                have hC := hI
                have hC := hC.weaken (Hp.le_trans (Hp.le_trans (Hp.le_trans hle77 hle79) hle86) hle89)
                refine ⟨fun _ _ => hC, ?_⟩
                refine GmT.p' 23 67 (.bool y92) (by kernel_rfl) (by kernel_rfl) ?_
                refine GmT.p' 24 6 (.bool y92) (by kernel_rfl) (by kernel_rfl) ?_
                refine GmT.done (by kernel_rfl) ?_
                have hI := hI.drop
                have hI := hI.drop
                have e := someS h1
                subst e
                exact Qn.thenJ fun a ha => ⟨y92, Z88, rfl, ha.keep [6] (by kernel_rfl), hI, (Hp.le_trans (Hp.le_trans (Hp.le_trans hle77 hle79) hle86) hle89)⟩
              · rw [if_neg hb63] at h1
                have hb63 : (y62 == y53) = false := by simpa using hb63
                refine GmT.keep [2, 3, 58] (S' := [(2, .int .i64 a2), (3, .pointer (some ⟨b1, 0, none⟩)), (58, .bool false)]) (by simp only [hb63]; kernel_rfl) ?_
                refine GmT.p' 15 59 (undef) (by kernel_rfl) (by kernel_rfl) ?_
                refine GmT.p' 16 60 (undef) (by kernel_rfl) (by kernel_rfl) ?_
                refine GmT.p' 17 61 (undef) (by kernel_rfl) (by kernel_rfl) ?_
                refine GmT.p' 18 62 (undef) (by kernel_rfl) (by kernel_rfl) ?_
                refine GmT.p' 19 63 (undef) (by kernel_rfl) (by kernel_rfl) ?_
                refine GmT.p' 20 64 (undef) (by kernel_rfl) (by kernel_rfl) ?_
                refine GmT.p' 21 65 (undef) (by kernel_rfl) (by kernel_rfl) ?_
                refine GmT.p' 22 66 (undef) (by kernel_rfl) (by kernel_rfl) ?_
                refine GmT.p' 23 67 (.bool false) (by kernel_rfl) (by kernel_rfl) ?_
                refine GmT.p' 24 6 (.bool false) (by kernel_rfl) (by kernel_rfl) ?_
                refine GmT.done (by kernel_rfl) ?_
                have hI := hI.drop
                have hI := hI.drop
                have e := someS h1
                subst e
                exact Qn.thenJ fun a ha => ⟨false, Z49, rfl, ha.keep [6] (by kernel_rfl), hI, (Hp.le_refl _)⟩
            · rw [if_neg hb60] at h1
              have hb60 : (y59 == y25) = false := by simpa using hb60
              refine GmT.keep [2, 3, 4, 9, 51] (S' := [(2, .int .i64 a2), (3, .pointer (some ⟨b1, 0, none⟩)), (4, .pointer (some ⟨b2, 0, none⟩)), (9, .bool y53), (51, .bool false)]) (by simp only [hb60]; kernel_rfl) ?_
              refine GmT.p' 8 52 (undef) (by kernel_rfl) (by kernel_rfl) ?_
              refine GmT.p' 9 53 (undef) (by kernel_rfl) (by kernel_rfl) ?_
              refine GmT.p' 10 54 (undef) (by kernel_rfl) (by kernel_rfl) ?_
              refine GmT.p' 11 55 (undef) (by kernel_rfl) (by kernel_rfl) ?_
              refine GmT.p' 12 56 (undef) (by kernel_rfl) (by kernel_rfl) ?_
              refine GmT.p' 13 57 (.bool false) (by kernel_rfl) (by kernel_rfl) ?_
              refine GmT.p' 14 58 (.bool false) (by kernel_rfl) (by kernel_rfl) ?_
              refine GmT.p' 15 59 (undef) (by kernel_rfl) (by kernel_rfl) ?_
              refine GmT.p' 16 60 (undef) (by kernel_rfl) (by kernel_rfl) ?_
              refine GmT.p' 17 61 (undef) (by kernel_rfl) (by kernel_rfl) ?_
              refine GmT.p' 18 62 (undef) (by kernel_rfl) (by kernel_rfl) ?_
              refine GmT.p' 19 63 (undef) (by kernel_rfl) (by kernel_rfl) ?_
              refine GmT.p' 20 64 (undef) (by kernel_rfl) (by kernel_rfl) ?_
              refine GmT.p' 21 65 (undef) (by kernel_rfl) (by kernel_rfl) ?_
              refine GmT.p' 22 66 (undef) (by kernel_rfl) (by kernel_rfl) ?_
              refine GmT.p' 23 67 (.bool false) (by kernel_rfl) (by kernel_rfl) ?_
              refine GmT.p' 24 6 (.bool false) (by kernel_rfl) (by kernel_rfl) ?_
              refine GmT.done (by kernel_rfl) ?_
              have hI := hI.drop
              have hI := hI.drop
              have e := someS h1
              subst e
              exact Qn.thenJ fun a ha => ⟨false, Z49, rfl, ha.keep [6] (by kernel_rfl), hI, (Hp.le_refl _)⟩
          · rw [if_neg hb57] at h1
            have hb57 : y4 = false := by simpa using hb57
            refine GmT.keep [2, 3, 4, 8, 9, 45] (S' := [(2, .int .i64 a2), (3, .pointer (some ⟨b1, 0, none⟩)), (4, .pointer (some ⟨b2, 0, none⟩)), (8, .bool y25), (9, .bool y53), (45, .bool false)]) (by simp only [hb57]; kernel_rfl) ?_
            refine GmT.p' 2 46 (undef) (by kernel_rfl) (by kernel_rfl) ?_
            refine GmT.p' 3 47 (undef) (by kernel_rfl) (by kernel_rfl) ?_
            refine GmT.p' 4 48 (undef) (by kernel_rfl) (by kernel_rfl) ?_
            refine GmT.p' 5 49 (undef) (by kernel_rfl) (by kernel_rfl) ?_
            refine GmT.p' 6 50 (.bool false) (by kernel_rfl) (by kernel_rfl) ?_
            refine GmT.p' 7 51 (.bool false) (by kernel_rfl) (by kernel_rfl) ?_
            refine GmT.p' 8 52 (undef) (by kernel_rfl) (by kernel_rfl) ?_
            refine GmT.p' 9 53 (undef) (by kernel_rfl) (by kernel_rfl) ?_
            refine GmT.p' 10 54 (undef) (by kernel_rfl) (by kernel_rfl) ?_
            refine GmT.p' 11 55 (undef) (by kernel_rfl) (by kernel_rfl) ?_
            refine GmT.p' 12 56 (undef) (by kernel_rfl) (by kernel_rfl) ?_
            refine GmT.p' 13 57 (.bool false) (by kernel_rfl) (by kernel_rfl) ?_
            refine GmT.p' 14 58 (.bool false) (by kernel_rfl) (by kernel_rfl) ?_
            refine GmT.p' 15 59 (undef) (by kernel_rfl) (by kernel_rfl) ?_
            refine GmT.p' 16 60 (undef) (by kernel_rfl) (by kernel_rfl) ?_
            refine GmT.p' 17 61 (undef) (by kernel_rfl) (by kernel_rfl) ?_
            refine GmT.p' 18 62 (undef) (by kernel_rfl) (by kernel_rfl) ?_
            refine GmT.p' 19 63 (undef) (by kernel_rfl) (by kernel_rfl) ?_
            refine GmT.p' 20 64 (undef) (by kernel_rfl) (by kernel_rfl) ?_
            refine GmT.p' 21 65 (undef) (by kernel_rfl) (by kernel_rfl) ?_
            refine GmT.p' 22 66 (undef) (by kernel_rfl) (by kernel_rfl) ?_
            refine GmT.p' 23 67 (.bool false) (by kernel_rfl) (by kernel_rfl) ?_
            refine GmT.p' 24 6 (.bool false) (by kernel_rfl) (by kernel_rfl) ?_
            refine GmT.done (by kernel_rfl) ?_
            have hI := hI.drop
            have hI := hI.drop
            have e := someS h1
            subst e
            exact Qn.thenJ fun a ha => ⟨false, Z49, rfl, ha.keep [6] (by kernel_rfl), hI, (Hp.le_refl _)⟩
        ·
          rintro a w ⟨x56, Z54, rfl, ha, hI, hle55⟩
          try dsimp only at h0
          refine CodT.of ?_ ha
          refine CodT.ret ?_
          have e := someS h0
          subst e
          refine Qn.keep [6] (S' := [(6, .bool x56)]) (by kernel_rfl) ?_
          exact post_ret (v := .bool x56) (fun a ha => RunRes.run (vs := [.bool x56]) (.tmp (t := 6) (by kernel_rfl) .nil) ha (by kernel_rfl)) ⟨rfl, hI.weaken (Hp.le_trans (Hp.le_trans (Hp.le_trans (Hp.le_trans (Hp.le_trans (Hp.le_trans hle20 hle22) hle35) hle45) hle47) hle50) hle55)⟩
end Go.Cen
