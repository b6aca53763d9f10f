/- The walk of the law RootStays, printed by a program of ours. -/
import Derived.Test.YthdoklobbcedcabWx4
set_option linter.unusedVariables false
set_option linter.unusedSimpArgs false
namespace Go.Cen
set_option maxRecDepth 100000 in
set_option maxHeartbeats 4000000 in
/-- cenotaph/cenotaphlaw15.RootStays -/
theorem c6 (w0 w : World) (Z : Hp) (A : HP) (hI : Inv w0 Z w A) (A_a0_Map : Option Addr) (c_a0_Map : Nat) (a0_Map : (List RootEntry)) (hr_a0_Map : RdS Z c_RootEntry 4 A_a0_Map c_a0_Map a0_Map) (A_a0_Gone : Option Addr) (c_a0_Gone : Nat) (a0_Gone : (List Int)) (hr_a0_Gone : RdS Z (cI .i64) 1 A_a0_Gone c_a0_Gone a0_Gone) (a1 : RootEntry) (a2 : Int) (r : Bool) (h0 : law15_RootStays a0_Map a0_Gone a1 a2 = some r) :
    Calls prog 6 #[.agg ((([.slice A_a0_Map a0_Map.length c_a0_Map, .slice A_a0_Gone a0_Gone.length c_a0_Gone] : List Value))).toArray, .agg (c_RootEntry a1).toArray, .int .i64 a2] w (fun e w' => e = .returned (.bool r) ∧ Inv w0 Z w' A) := by
  have e4 := calls_intro (R := (fun e w' => e = .returned (.bool r) ∧ Inv w0 Z w' A)) (w := w) (args := [.agg ((([.slice A_a0_Map a0_Map.length c_a0_Map, .slice A_a0_Gone a0_Gone.length c_a0_Gone] : List Value))).toArray, .agg (c_RootEntry a1).toArray, .int .i64 a2]) (fn := Go.Proofs.Try.f6) 109 Go.Proofs.Try.func6 (by rfl) Go.Proofs.Try.ntmps6 (by kernel_rfl)
  refine e4 ?_
  clear e4
  unfold law15_RootStays at h0
  refine CodT.seq ?_
  refine CodT.regionL [0, 1, 2] (by kernel_rfl) ?_
  refine OpsT.cons (Does.boxL (d := 3) (T := 25) (v := .agg ((([.slice A_a0_Map a0_Map.length c_a0_Map, .slice A_a0_Gone a0_Gone.length c_a0_Gone] : List Value))).toArray) ((([.slice A_a0_Map a0_Map.length c_a0_Map, .slice A_a0_Gone a0_Gone.length c_a0_Gone] : List Value))) (by kernel_rfl) hI (by kernel_rfl) ?_)
  intro b1 w hI
  refine OpsT.cons (Does.boxL (d := 4) (T := 47) (v := .agg (c_RootEntry a1).toArray) (c_RootEntry a1) (by kernel_rfl) hI (by kernel_rfl) ?_)
  intro b2 w hI
  refine OpsT.pures (r := []) [2] [2, 3, 4] (S' := [(2, .int .i64 a2), (3, .pointer (some ⟨b1, 0, none⟩)), (4, .pointer (some ⟨b2, 0, none⟩))]) (by kernel_rfl) ?_
  refine OpsT.done ?_
  refine Qn.then ?_
  refine CodT.seq ?_
  refine CodT.regionL [0, 1] (by kernel_rfl) ?_
  obtain ⟨y4, hc3, h0⟩ := bindS h0
  try dsimp only at h0
  refine OpsT.cons (Does.call (d := some 16) (n := 10) (vs := []) (by kernel_rfl) en10 (c10 w0 w _ _ hI _ hc3) ?_)
  rintro e w ⟨rfl, hI⟩
  refine ⟨_, rfl, ?_⟩
  refine OpsT.pures (r := []) [1] [2, 3, 4, 7] (S' := [(2, .int .i64 a2), (3, .pointer (some ⟨b1, 0, none⟩)), (4, .pointer (some ⟨b2, 0, none⟩)), (7, .bool y4)]) (by kernel_rfl) ?_
  refine OpsT.done ?_
  refine Qn.then ?_
  refine CodT.seq ?_
  refine CodT.seq ?_
  refine CodT.regionL [0, 1] (by kernel_rfl) ?_
  refine OpsT.pures (r := []) [0, 1] [2, 3, 4, 7, 18] (S' := [(2, .int .i64 a2), (3, .pointer (some ⟨b1, 0, none⟩)), (4, .pointer (some ⟨b2, 0, none⟩)), (7, .bool y4), (18, .bool (!y4))]) (by kernel_rfl) ?_
  refine OpsT.done ?_
  refine Qn.then ?_
  by_cases hb5 : (!y4) = true
  · rw [if_pos hb5] at h0
    refine CodT.yes' (b := !y4) (by kernel_rfl) hb5 ?_
    refine CodT.seq ?_
    refine CodT.regionL [0] (by kernel_rfl) ?_
    refine OpsT.pures (r := []) [0] [6] (S' := [(6, .bool false)]) (by kernel_rfl) ?_
    refine OpsT.done ?_
    refine Qn.then ?_
    refine CodT.ret ?_
    refine Qn.ret_then ?_
    have hI := hI.drop
    have hI := hI.drop
    have e := someS h0
    subst e
    refine Qn.keep [6] (S' := [(6, .bool false)]) (by kernel_rfl) ?_
    exact post_ret (v := .bool false) (fun a ha => RunRes.run (vs := [.bool false]) (.tmp (t := 6) (by kernel_rfl) .nil) ha (by kernel_rfl)) ⟨rfl, hI⟩
  · rw [if_neg hb5] at h0
    refine CodT.no' (b := !y4) (by kernel_rfl) (by simpa using hb5) ?_
    refine CodT.skip ?_
    refine Qn.then ?_
    refine CodT.seq ?_
    refine CodT.regionL [0, 1, 2, 3, 4, 5, 6] (by kernel_rfl) ?_
    refine OpsT.cons (Does.yi (Yl.load (d := 19) (T := 47) (v := .agg (c_RootEntry a1).toArray) (by kernel_rfl) (ldBN ty47 (l := c_RootEntry a1) (o := 0) (cs := c_RootEntry a1) (ent_refl _) (by kernel_rfl) (whole _ _ (by kernel_rfl)))) hI ?_)
    refine OpsT.cons (Does.buildSlice (en := c_RootEntry) (d := 20) (n := 1) (T := 22) (ps := [(0, .agg (c_RootEntry a1).toArray)]) ([a1] : List RootEntry) (by kernel_rfl) Go.Proofs.Try.underlying22 ty47 (by kernel_rfl) (by kernel_rfl) (by kernel_rfl) (by kernel_rfl) (len_all (fun _ => rfl)) hI ?_)
    intro b6 w hI
    refine OpsT.pures (r := [3, 4, 5, 6]) [2] [2, 3, 4, 7, 20, 21] (S' := [(2, .int .i64 a2), (3, .pointer (some ⟨b1, 0, none⟩)), (4, .pointer (some ⟨b2, 0, none⟩)), (7, .bool y4), (20, .slice (some ⟨b6, 0, none⟩) (([a1] : List RootEntry).length) 1), (21, .int .i64 a2)]) (by kernel_rfl) ?_
    refine OpsT.cons (Does.buildSlice (en := (cI .i64)) (d := 22) (n := 1) (T := 23) (ps := [(0, .int .i64 a2)]) ([a2] : List Int) (by kernel_rfl) Go.Proofs.Try.underlying23 ty3 (by kernel_rfl) (by kernel_rfl) (by kernel_rfl) (by kernel_rfl) (len_all (fun _ => rfl)) hI ?_)
    intro b7 w hI
    refine OpsT.pures (r := [5, 6]) [4] [2, 3, 4, 7, 23] (S' := [(2, .int .i64 a2), (3, .pointer (some ⟨b1, 0, none⟩)), (4, .pointer (some ⟨b2, 0, none⟩)), (7, .bool y4), (23, .agg ((([.slice (some ⟨b6, 0, none⟩) (([a1] : List RootEntry).length) 1, .slice (some ⟨b7, 0, none⟩) (([a2] : List Int).length) 1] : List Value))).toArray)]) (by kernel_rfl) ?_
    have hI := hI.mono (pick2 _ _ _)
    obtain ⟨Z8, hle9, hr10, hI⟩ := ownS_freeze hI
    obtain ⟨Z11, hle12, hr13, hI⟩ := ownS_freeze hI
    obtain ⟨y15, hc14, h0⟩ := bindS h0
    try dsimp only at h0
    refine OpsT.cons (Does.call (d := some 24) (n := 14) (vs := [.agg ((([.slice (some ⟨b6, 0, none⟩) (([a1] : List RootEntry).length) 1, .slice (some ⟨b7, 0, none⟩) (([a2] : List Int).length) 1] : List Value))).toArray]) (by kernel_rfl) en14 (c14 w0 w _ _ hI (some ⟨b6, 0, none⟩) 1 ([a1] : List RootEntry) (hr10.mono hle12) (some ⟨b7, 0, none⟩) 1 ([a2] : List Int) hr13 _ hc14) ?_)
    rintro e w ⟨rfl, hI⟩
    refine ⟨_, rfl, ?_⟩
    refine OpsT.pures (r := []) [6] [2, 3, 4, 7, 8] (S' := [(2, .int .i64 a2), (3, .pointer (some ⟨b1, 0, none⟩)), (4, .pointer (some ⟨b2, 0, none⟩)), (7, .bool y4), (8, .bool y15)]) (by kernel_rfl) ?_
    refine OpsT.done ?_
    refine Qn.then ?_
    refine CodT.seq ?_
    obtain ⟨r1, h1, h0⟩ := bindS h0
    refine CodT.meet (fun a w => ∃ (x16 : Bool), x16 = r1 ∧ Fr 109 [(2, .int .i64 a2), (3, .pointer (some ⟨b1, 0, none⟩)), (4, .pointer (some ⟨b2, 0, none⟩)), (7, .bool y4), (43, .bool x16)] a ∧ Inv w0 Z11 w (star (pt b2 (.cells (c_RootEntry a1).toArray 47 (0, 0))) (star (pt b1 (.cells ((([.slice A_a0_Map a0_Map.length c_a0_Map, .slice A_a0_Gone a0_Gone.length c_a0_Gone] : List Value))).toArray 25 (0, 0))) A))) ?_ ?_
    ·
      refine CodT.regionL [0, 1, 2, 3, 4, 5, 6, 7, 8, 9, 10, 11, 12, 13, 14, 15, 16, 17, 18] (by kernel_rfl) ?_
      refine OpsT.pures (r := [1, 2, 3, 4, 5, 6, 7, 8, 9, 10, 11, 12, 13, 14, 15, 16, 17, 18]) [0] [2, 3, 4, 7, 8, 25] (S' := [(2, .int .i64 a2), (3, .pointer (some ⟨b1, 0, none⟩)), (4, .pointer (some ⟨b2, 0, none⟩)), (7, .bool y4), (8, .bool y15), (25, .pointer (some ⟨b1, 0, none⟩))]) (by kernel_rfl) ?_
      refine OpsT.cons (Does.yi (Yl.load (d := 26) (T := 22) (v := .slice A_a0_Map a0_Map.length c_a0_Map) (by kernel_rfl) (ldB ty22 (l := (([.slice A_a0_Map a0_Map.length c_a0_Map, .slice A_a0_Gone a0_Gone.length c_a0_Gone] : List Value))) (o := 0) (v := .slice A_a0_Map a0_Map.length c_a0_Map) (pick2 _ _ _) (by kernel_rfl))) hI ?_)
      refine OpsT.pures (r := [5, 6, 7, 8, 9, 10, 11, 12, 13, 14, 15, 16, 17, 18]) [2, 3, 4] [2, 3, 4, 7, 8, 29] (S' := [(2, .int .i64 a2), (3, .pointer (some ⟨b1, 0, none⟩)), (4, .pointer (some ⟨b2, 0, none⟩)), (7, .bool y4), (8, .bool y15), (29, .bool (decide ((a0_Map.length : Int) > 60)))]) (by kernel_rfl) ?_
      by_cases hb17 : (decide ((a0_Map.length : Int) > 60)) = true
      · rw [if_pos hb17] at h1
        refine OpsT.keep [2, 3, 4, 7, 8, 29] (S' := [(2, .int .i64 a2), (3, .pointer (some ⟨b1, 0, none⟩)), (4, .pointer (some ⟨b2, 0, none⟩)), (7, .bool y4), (8, .bool y15), (29, .bool true)]) (by simp only [hb17]; kernel_rfl) ?_
        refine OpsT.pures (r := []) [5, 6, 7, 8, 9, 10, 11, 12, 13, 14, 15, 16, 17, 18] [2, 3, 4, 7, 43] (S' := [(2, .int .i64 a2), (3, .pointer (some ⟨b1, 0, none⟩)), (4, .pointer (some ⟨b2, 0, none⟩)), (7, .bool y4), (43, .bool true)]) (by kernel_rfl) ?_
        refine OpsT.done ?_
        have e := someS h1
        subst e
        exact Qn.thenJ fun a ha => ⟨true, rfl, ha.keep [2, 3, 4, 7, 43] (by kernel_rfl), hI⟩
      · rw [if_neg hb17] at h1
        have hb17 : (decide ((a0_Map.length : Int) > 60)) = false := by simpa using hb17
        refine OpsT.keep [2, 3, 4, 7, 8, 29] (S' := [(2, .int .i64 a2), (3, .pointer (some ⟨b1, 0, none⟩)), (4, .pointer (some ⟨b2, 0, none⟩)), (7, .bool y4), (8, .bool y15), (29, .bool false)]) (by simp only [hb17]; kernel_rfl) ?_
        refine OpsT.pures (r := [6, 7, 8, 9, 10, 11, 12, 13, 14, 15, 16, 17, 18]) [5] [2, 3, 4, 7, 8, 29, 30] (S' := [(2, .int .i64 a2), (3, .pointer (some ⟨b1, 0, none⟩)), (4, .pointer (some ⟨b2, 0, none⟩)), (7, .bool y4), (8, .bool y15), (29, .bool false), (30, .pointer (some ⟨b1, 1, none⟩))]) (by kernel_rfl) ?_
        refine OpsT.cons (Does.yi (Yl.load (d := 31) (T := 23) (v := .slice A_a0_Gone a0_Gone.length c_a0_Gone) (by kernel_rfl) (ldB ty23 (l := (([.slice A_a0_Map a0_Map.length c_a0_Map, .slice A_a0_Gone a0_Gone.length c_a0_Gone] : List Value))) (o := 1) (v := .slice A_a0_Gone a0_Gone.length c_a0_Gone) (pick2 _ _ _) (by kernel_rfl))) hI ?_)
        refine OpsT.pures (r := [11, 12, 13, 14, 15, 16, 17, 18]) [7, 8, 9, 10] [2, 3, 4, 7, 8, 35] (S' := [(2, .int .i64 a2), (3, .pointer (some ⟨b1, 0, none⟩)), (4, .pointer (some ⟨b2, 0, none⟩)), (7, .bool y4), (8, .bool y15), (35, .bool (decide ((a0_Gone.length : Int) > 60)))]) (by kernel_rfl) ?_
        by_cases hb18 : (decide ((a0_Gone.length : Int) > 60)) = true
        · rw [if_pos hb18] at h1
          refine OpsT.keep [2, 3, 4, 7, 8, 35] (S' := [(2, .int .i64 a2), (3, .pointer (some ⟨b1, 0, none⟩)), (4, .pointer (some ⟨b2, 0, none⟩)), (7, .bool y4), (8, .bool y15), (35, .bool true)]) (by simp only [hb18]; kernel_rfl) ?_
          refine OpsT.pures (r := []) [11, 12, 13, 14, 15, 16, 17, 18] [2, 3, 4, 7, 43] (S' := [(2, .int .i64 a2), (3, .pointer (some ⟨b1, 0, none⟩)), (4, .pointer (some ⟨b2, 0, none⟩)), (7, .bool y4), (43, .bool true)]) (by kernel_rfl) ?_
          refine OpsT.done ?_
          have e := someS h1
          subst e
          exact Qn.thenJ fun a ha => ⟨true, rfl, ha.keep [2, 3, 4, 7, 43] (by kernel_rfl), hI⟩
        · rw [if_neg hb18] at h1
          have hb18 : (decide ((a0_Gone.length : Int) > 60)) = false := by simpa using hb18
          refine OpsT.keep [2, 3, 4, 7, 8, 35] (S' := [(2, .int .i64 a2), (3, .pointer (some ⟨b1, 0, none⟩)), (4, .pointer (some ⟨b2, 0, none⟩)), (7, .bool y4), (8, .bool y15), (35, .bool false)]) (by simp only [hb18]; kernel_rfl) ?_
          refine OpsT.pures (r := [15, 16, 17, 18]) [11, 12, 13, 14] [2, 3, 4, 7, 39] (S' := [(2, .int .i64 a2), (3, .pointer (some ⟨b1, 0, none⟩)), (4, .pointer (some ⟨b2, 0, none⟩)), (7, .bool y4), (39, .bool (!y15))]) (by kernel_rfl) ?_
          by_cases hb19 : (!y15) = true
          · rw [if_pos hb19] at h1
            refine OpsT.keep [2, 3, 4, 7, 39] (S' := [(2, .int .i64 a2), (3, .pointer (some ⟨b1, 0, none⟩)), (4, .pointer (some ⟨b2, 0, none⟩)), (7, .bool y4), (39, .bool true)]) (by simp only [hb19]; kernel_rfl) ?_
            refine OpsT.pures (r := []) [15, 16, 17, 18] [2, 3, 4, 7, 43] (S' := [(2, .int .i64 a2), (3, .pointer (some ⟨b1, 0, none⟩)), (4, .pointer (some ⟨b2, 0, none⟩)), (7, .bool y4), (43, .bool true)]) (by kernel_rfl) ?_
            refine OpsT.done ?_
            have e := someS h1
            subst e
            exact Qn.thenJ fun a ha => ⟨true, rfl, ha.keep [2, 3, 4, 7, 43] (by kernel_rfl), hI⟩
          · rw [if_neg hb19] at h1
            have hb19 : (!y15) = false := by simpa using hb19
            refine OpsT.keep [2, 3, 4, 7, 39] (S' := [(2, .int .i64 a2), (3, .pointer (some ⟨b1, 0, none⟩)), (4, .pointer (some ⟨b2, 0, none⟩)), (7, .bool y4), (39, .bool false)]) (by simp only [hb19]; kernel_rfl) ?_
            refine OpsT.cons (Does.yi (Yl.load (d := 40) (T := 25) (v := .agg ((([.slice A_a0_Map a0_Map.length c_a0_Map, .slice A_a0_Gone a0_Gone.length c_a0_Gone] : List Value))).toArray) (by kernel_rfl) (ldBN ty25 (l := (([.slice A_a0_Map a0_Map.length c_a0_Map, .slice A_a0_Gone a0_Gone.length c_a0_Gone] : List Value))) (o := 0) (cs := (([.slice A_a0_Map a0_Map.length c_a0_Map, .slice A_a0_Gone a0_Gone.length c_a0_Gone] : List Value))) (pick2 _ _ _) (by kernel_rfl) (whole _ _ (by kernel_rfl)))) hI ?_)
            obtain ⟨y21, hc20, h1⟩ := bindS h1
            try dsimp only at h1
            refine OpsT.cons (Does.call (d := some 41) (n := 14) (vs := [.agg ((([.slice A_a0_Map a0_Map.length c_a0_Map, .slice A_a0_Gone a0_Gone.length c_a0_Gone] : List Value))).toArray]) (by kernel_rfl) en14 (c14 w0 w _ _ hI A_a0_Map c_a0_Map a0_Map (hr_a0_Map.mono (Hp.le_trans hle9 hle12)) A_a0_Gone c_a0_Gone a0_Gone (hr_a0_Gone.mono (Hp.le_trans hle9 hle12)) _ hc20) ?_)
            rintro e w ⟨rfl, hI⟩
            refine ⟨_, rfl, ?_⟩
            refine OpsT.pures (r := []) [17, 18] [2, 3, 4, 7, 43] (S' := [(2, .int .i64 a2), (3, .pointer (some ⟨b1, 0, none⟩)), (4, .pointer (some ⟨b2, 0, none⟩)), (7, .bool y4), (43, .bool (!y21))]) (by kernel_rfl) ?_
            refine OpsT.done ?_
            have e := someS h1
            subst e
            exact Qn.thenJ fun a ha => ⟨!y21, rfl, ha.keep [2, 3, 4, 7, 43] (by kernel_rfl), hI⟩
    ·
      rintro a w ⟨x16, rfl, ha, hI⟩
      try dsimp only at h0
      refine CodT.of ?_ ha
      by_cases hb22 : x16 = true
      · rw [if_pos hb22] at h0
        refine CodT.yes' (b := x16) (by kernel_rfl) hb22 ?_
        refine CodT.seq ?_
        refine CodT.regionL [0, 1] (by kernel_rfl) ?_
        refine OpsT.pures (r := []) [0, 1] [6] (S' := [(6, .bool y4)]) (by kernel_rfl) ?_
        refine OpsT.done ?_
        refine Qn.then ?_
        refine CodT.ret ?_
        refine Qn.ret_then ?_
        have hI := hI.drop
        have hI := hI.drop
        have e := someS h0
        subst e
        refine Qn.keep [6] (S' := [(6, .bool y4)]) (by kernel_rfl) ?_
        exact post_ret (v := .bool y4) (fun a ha => RunRes.run (vs := [.bool y4]) (.tmp (t := 6) (by kernel_rfl) .nil) ha (by kernel_rfl)) ⟨rfl, hI.weaken (Hp.le_trans hle9 hle12)⟩
      · rw [if_neg hb22] at h0
        refine CodT.no' (b := x16) (by kernel_rfl) (by simpa using hb22) ?_
        refine CodT.skip ?_
        refine Qn.then ?_
        refine CodT.seq ?_
        refine CodT.regionL [0, 1, 2, 3, 4] (by kernel_rfl) ?_
        refine OpsT.cons (Does.yi (Yl.load (d := 45) (T := 25) (v := .agg ((([.slice A_a0_Map a0_Map.length c_a0_Map, .slice A_a0_Gone a0_Gone.length c_a0_Gone] : List Value))).toArray) (by kernel_rfl) (ldBN ty25 (l := (([.slice A_a0_Map a0_Map.length c_a0_Map, .slice A_a0_Gone a0_Gone.length c_a0_Gone] : List Value))) (o := 0) (cs := (([.slice A_a0_Map a0_Map.length c_a0_Map, .slice A_a0_Gone a0_Gone.length c_a0_Gone] : List Value))) (pick2 _ _ _) (by kernel_rfl) (whole _ _ (by kernel_rfl)))) hI ?_)
        refine OpsT.cons (Does.yi (Yl.load (d := 46) (T := 47) (v := .agg (c_RootEntry a1).toArray) (by kernel_rfl) (ldBN ty47 (l := c_RootEntry a1) (o := 0) (cs := c_RootEntry a1) (ent_refl _) (by kernel_rfl) (whole _ _ (by kernel_rfl)))) hI ?_)
        obtain ⟨⟨y24, y27⟩, hc23, h0⟩ := bindS h0
        try dsimp only at h0
        refine OpsT.cons (Does.call (d := some 47) (n := 21) (vs := [.agg ((([.slice A_a0_Map a0_Map.length c_a0_Map, .slice A_a0_Gone a0_Gone.length c_a0_Gone] : List Value))).toArray, .agg (c_RootEntry a1).toArray]) (by kernel_rfl) en21 (c21 w0 w _ _ hI A_a0_Map c_a0_Map a0_Map (hr_a0_Map.mono (Hp.le_trans hle9 hle12)) A_a0_Gone c_a0_Gone a0_Gone (hr_a0_Gone.mono (Hp.le_trans hle9 hle12)) a1 _ hc23) ?_)
        rintro e w ⟨A25, cp26, A28, cp29, Z31, hle32, rfl, hr30, hI⟩
        refine ⟨_, rfl, ?_⟩
        refine OpsT.cons (Does.allocL (d := 9) (T := 25) ((([.slice none 0 0, .slice none 0 0] : List Value))) (by kernel_rfl) ty25 hI (by kernel_rfl) ?_)
        intro b33 w hI
        refine OpsT.cons (Does.storeLit (T := 25) (b := b33) (o := 0) (v := .agg ((([.slice A25 y24.length cp26, .slice A28 y27.length cp29] : List Value))).toArray) (l := (([.slice none 0 0, .slice none 0 0] : List Value))) (vs := (([.slice A25 y24.length cp26, .slice A28 y27.length cp29] : List Value))) (L' := (([.slice A25 y24.length cp26, .slice A28 y27.length cp29] : List Value))) (by kernel_rfl) ty25 hI (by kernel_rfl) (by kernel_rfl) (by kernel_rfl) (by kernel_rfl) (by kernel_rfl) ?_)
        intro w hI
        refine OpsT.done ?_
        refine Qn.then ?_
        refine CodT.seq ?_
        refine CodT.regionL [0, 1, 2, 3, 4, 5] (by kernel_rfl) ?_
        refine OpsT.cons (Does.yi (Yl.load (d := 48) (T := 25) (v := .agg ((([.slice A25 y24.length cp26, .slice A28 y27.length cp29] : List Value))).toArray) (by kernel_rfl) (ldBN ty25 (l := (([.slice A25 y24.length cp26, .slice A28 y27.length cp29] : List Value))) (o := 0) (cs := (([.slice A25 y24.length cp26, .slice A28 y27.length cp29] : List Value))) (ent_refl _) (by kernel_rfl) (whole _ _ (by kernel_rfl)))) hI ?_)
        refine OpsT.pures (r := [2, 3, 4, 5]) [1] [2, 3, 4, 7, 9, 48, 49] (S' := [(2, .int .i64 a2), (3, .pointer (some ⟨b1, 0, none⟩)), (4, .pointer (some ⟨b2, 0, none⟩)), (7, .bool y4), (9, .pointer (some ⟨b33, 0, none⟩)), (48, .agg ((([.slice A25 y24.length cp26, .slice A28 y27.length cp29] : List Value))).toArray), (49, .pointer (some ⟨b2, 0, none⟩))]) (by kernel_rfl) ?_
        refine OpsT.cons (Does.yi (Yl.load (d := 50) (T := 3) (v := .int .i64 a1.Logic) (by kernel_rfl) (ldB ty3 (l := c_RootEntry a1) (o := 0) (v := .int .i64 a1.Logic) (pick3 _ _ _ _) (by kernel_rfl))) hI ?_)
        have hI := hI.mono (pick2 _ _ _)
        obtain ⟨Z34, hle35, hr36, hI⟩ := ownS_freeze hI
        obtain ⟨⟨y38, y41⟩, hc37, h0⟩ := bindS h0
        try dsimp only at h0
        refine OpsT.cons (Does.call (d := some 51) (n := 22) (vs := [.agg ((([.slice A25 y24.length cp26, .slice A28 y27.length cp29] : List Value))).toArray, .int .i64 a1.Logic]) (by kernel_rfl) en22 (c22 w0 w _ _ hI A25 cp26 y24 hr36 A28 cp29 y27 (hr30.mono hle35) a1.Logic _ hc37) ?_)
        rintro e w ⟨A39, cp40, A42, cp43, Z45, hle46, rfl, hr44, hI⟩
        refine ⟨_, rfl, ?_⟩
        refine OpsT.cons (Does.allocL (d := 10) (T := 25) ((([.slice none 0 0, .slice none 0 0] : List Value))) (by kernel_rfl) ty25 hI (by kernel_rfl) ?_)
        intro b47 w hI
        refine OpsT.cons (Does.storeLit (T := 25) (b := b47) (o := 0) (v := .agg ((([.slice A39 y38.length cp40, .slice A42 y41.length cp43] : List Value))).toArray) (l := (([.slice none 0 0, .slice none 0 0] : List Value))) (vs := (([.slice A39 y38.length cp40, .slice A42 y41.length cp43] : List Value))) (L' := (([.slice A39 y38.length cp40, .slice A42 y41.length cp43] : List Value))) (by kernel_rfl) ty25 hI (by kernel_rfl) (by kernel_rfl) (by kernel_rfl) (by kernel_rfl) (by kernel_rfl) ?_)
        intro w hI
        refine OpsT.done ?_
        refine Qn.then ?_
        refine CodT.seq ?_
        refine CodT.regionL [0, 1, 2, 3, 4] (by kernel_rfl) ?_
        refine OpsT.cons (Does.yi (Yl.load (d := 52) (T := 25) (v := .agg ((([.slice A_a0_Map a0_Map.length c_a0_Map, .slice A_a0_Gone a0_Gone.length c_a0_Gone] : List Value))).toArray) (by kernel_rfl) (ldBN ty25 (l := (([.slice A_a0_Map a0_Map.length c_a0_Map, .slice A_a0_Gone a0_Gone.length c_a0_Gone] : List Value))) (o := 0) (cs := (([.slice A_a0_Map a0_Map.length c_a0_Map, .slice A_a0_Gone a0_Gone.length c_a0_Gone] : List Value))) (pick5 _ _ _ _ _ _) (by kernel_rfl) (whole _ _ (by kernel_rfl)))) hI ?_)
        refine OpsT.pures (r := [2, 3, 4]) [1] [2, 3, 4, 7, 9, 10, 52, 53] (S' := [(2, .int .i64 a2), (3, .pointer (some ⟨b1, 0, none⟩)), (4, .pointer (some ⟨b2, 0, none⟩)), (7, .bool y4), (9, .pointer (some ⟨b33, 0, none⟩)), (10, .pointer (some ⟨b47, 0, none⟩)), (52, .agg ((([.slice A_a0_Map a0_Map.length c_a0_Map, .slice A_a0_Gone a0_Gone.length c_a0_Gone] : List Value))).toArray), (53, .int .i64 a2)]) (by kernel_rfl) ?_
        obtain ⟨⟨y49, y53⟩, hc48, h0⟩ := bindS h0
        try dsimp only at h0
        refine OpsT.cons (Does.call (d := some 54) (n := 23) (vs := [.agg ((([.slice A_a0_Map a0_Map.length c_a0_Map, .slice A_a0_Gone a0_Gone.length c_a0_Gone] : List Value))).toArray, .int .i64 a2]) (by kernel_rfl) en23 (c23 w0 w _ _ hI A_a0_Map c_a0_Map a0_Map (hr_a0_Map.mono (Hp.le_trans (Hp.le_trans (Hp.le_trans (Hp.le_trans hle9 hle12) hle32) hle35) hle46)) A_a0_Gone c_a0_Gone a0_Gone (hr_a0_Gone.mono (Hp.le_trans (Hp.le_trans (Hp.le_trans (Hp.le_trans hle9 hle12) hle32) hle35) hle46)) a2 _ hc48) ?_)
        rintro e w ⟨A50, cp51, A54, cp55, Z56, hle57, rfl, hr52, hI⟩
        refine ⟨_, rfl, ?_⟩
        refine OpsT.cons (Does.allocL (d := 11) (T := 25) ((([.slice none 0 0, .slice none 0 0] : List Value))) (by kernel_rfl) ty25 hI (by kernel_rfl) ?_)
        intro b58 w hI
        refine OpsT.cons (Does.storeLit (T := 25) (b := b58) (o := 0) (v := .agg ((([.slice A50 y49.length cp51, .slice A54 y53.length cp55] : List Value))).toArray) (l := (([.slice none 0 0, .slice none 0 0] : List Value))) (vs := (([.slice A50 y49.length cp51, .slice A54 y53.length cp55] : List Value))) (L' := (([.slice A50 y49.length cp51, .slice A54 y53.length cp55] : List Value))) (by kernel_rfl) ty25 hI (by kernel_rfl) (by kernel_rfl) (by kernel_rfl) (by kernel_rfl) (by kernel_rfl) ?_)
        intro w hI
        refine OpsT.done ?_
        refine Qn.then ?_
        refine CodT.seq ?_
        refine CodT.regionL [0, 1, 2, 3, 4, 5, 6, 7, 8, 9] (by kernel_rfl) ?_
        refine OpsT.cons (Does.yi (Yl.load (d := 56) (T := 25) (v := .agg ((([.slice A25 y24.length cp26, .slice A28 y27.length cp29] : List Value))).toArray) (by kernel_rfl) (ldBN ty25 (l := (([.slice A25 y24.length cp26, .slice A28 y27.length cp29] : List Value))) (o := 0) (cs := (([.slice A25 y24.length cp26, .slice A28 y27.length cp29] : List Value))) (pick5 _ _ _ _ _ _) (by kernel_rfl) (whole _ _ (by kernel_rfl)))) hI ?_)
        refine OpsT.pures (r := [2, 3, 4, 5, 6, 7, 8, 9]) [1] [2, 3, 4, 7, 9, 10, 11, 56, 57] (S' := [(2, .int .i64 a2), (3, .pointer (some ⟨b1, 0, none⟩)), (4, .pointer (some ⟨b2, 0, none⟩)), (7, .bool y4), (9, .pointer (some ⟨b33, 0, none⟩)), (10, .pointer (some ⟨b47, 0, none⟩)), (11, .pointer (some ⟨b58, 0, none⟩)), (56, .agg ((([.slice A25 y24.length cp26, .slice A28 y27.length cp29] : List Value))).toArray), (57, .pointer (some ⟨b2, 0, none⟩))]) (by kernel_rfl) ?_
        refine OpsT.cons (Does.yi (Yl.load (d := 58) (T := 3) (v := .int .i64 a1.Logic) (by kernel_rfl) (ldB ty3 (l := c_RootEntry a1) (o := 0) (v := .int .i64 a1.Logic) (pick6 _ _ _ _ _ _ _) (by kernel_rfl))) hI ?_)
        obtain ⟨⟨y60, y61⟩, hc59, h0⟩ := bindS h0
        try dsimp only at h0
        refine OpsT.cons (Does.call (d := some 59) (n := 24) (vs := [.agg ((([.slice A25 y24.length cp26, .slice A28 y27.length cp29] : List Value))).toArray, .int .i64 a1.Logic]) (by kernel_rfl) en24 (c24 w0 w _ _ hI A25 cp26 y24 (hr36.mono (Hp.le_trans hle46 hle57)) A28 cp29 y27 (hr30.mono (Hp.le_trans (Hp.le_trans hle35 hle46) hle57)) a1.Logic _ hc59) ?_)
        rintro e w ⟨rfl, hI⟩
        refine ⟨_, rfl, ?_⟩
        refine OpsT.pures (r := [7, 8, 9]) [4, 5, 6] [2, 3, 4, 7, 9, 10, 11, 60, 61] (S' := [(2, .int .i64 a2), (3, .pointer (some ⟨b1, 0, none⟩)), (4, .pointer (some ⟨b2, 0, none⟩)), (7, .bool y4), (9, .pointer (some ⟨b33, 0, none⟩)), (10, .pointer (some ⟨b47, 0, none⟩)), (11, .pointer (some ⟨b58, 0, none⟩)), (60, .agg (c_RootEntry y60).toArray), (61, .bool y61)]) (by kernel_rfl) ?_
        refine OpsT.cons (Does.allocL (d := 12) (T := 47) (c_RootEntry (RootEntry.mk 0 0 0 0)) (by kernel_rfl) ty47 hI (by kernel_rfl) ?_)
        intro b62 w hI
        refine OpsT.cons (Does.storeLit (T := 47) (b := b62) (o := 0) (v := .agg (c_RootEntry y60).toArray) (l := c_RootEntry (RootEntry.mk 0 0 0 0)) (vs := c_RootEntry y60) (L' := c_RootEntry y60) (by kernel_rfl) ty47 hI (by kernel_rfl) (by kernel_rfl) (by kernel_rfl) (by kernel_rfl) (by kernel_rfl) ?_)
        intro w hI
        refine OpsT.pures (r := []) [9] [2, 3, 4, 7, 9, 10, 11, 12, 13] (S' := [(2, .int .i64 a2), (3, .pointer (some ⟨b1, 0, none⟩)), (4, .pointer (some ⟨b2, 0, none⟩)), (7, .bool y4), (9, .pointer (some ⟨b33, 0, none⟩)), (10, .pointer (some ⟨b47, 0, none⟩)), (11, .pointer (some ⟨b58, 0, none⟩)), (12, .pointer (some ⟨b62, 0, none⟩)), (13, .bool y61)]) (by kernel_rfl) ?_
        refine OpsT.done ?_
        refine Qn.then ?_
        refine CodT.seq ?_
        refine CodT.regionL [0, 1, 2, 3, 4, 5, 6, 7, 8, 9] (by kernel_rfl) ?_
        refine OpsT.cons (Does.yi (Yl.load (d := 63) (T := 25) (v := .agg ((([.slice A39 y38.length cp40, .slice A42 y41.length cp43] : List Value))).toArray) (by kernel_rfl) (ldBN ty25 (l := (([.slice A39 y38.length cp40, .slice A42 y41.length cp43] : List Value))) (o := 0) (cs := (([.slice A39 y38.length cp40, .slice A42 y41.length cp43] : List Value))) (pick4 _ _ _ _ _) (by kernel_rfl) (whole _ _ (by kernel_rfl)))) hI ?_)
        refine OpsT.pures (r := [2, 3, 4, 5, 6, 7, 8, 9]) [1] [2, 3, 4, 7, 9, 10, 11, 12, 13, 63, 64] (S' := [(2, .int .i64 a2), (3, .pointer (some ⟨b1, 0, none⟩)), (4, .pointer (some ⟨b2, 0, none⟩)), (7, .bool y4), (9, .pointer (some ⟨b33, 0, none⟩)), (10, .pointer (some ⟨b47, 0, none⟩)), (11, .pointer (some ⟨b58, 0, none⟩)), (12, .pointer (some ⟨b62, 0, none⟩)), (13, .bool y61), (63, .agg ((([.slice A39 y38.length cp40, .slice A42 y41.length cp43] : List Value))).toArray), (64, .pointer (some ⟨b2, 0, none⟩))]) (by kernel_rfl) ?_
        refine OpsT.cons (Does.yi (Yl.load (d := 65) (T := 3) (v := .int .i64 a1.Logic) (by kernel_rfl) (ldB ty3 (l := c_RootEntry a1) (o := 0) (v := .int .i64 a1.Logic) (pick7 _ _ _ _ _ _ _ _) (by kernel_rfl))) hI ?_)
        have hI := hI.mono (pick5 _ _ _ _ _ _)
        obtain ⟨Z63, hle64, hr65, hI⟩ := ownS_freeze hI
        obtain ⟨⟨y67, y68⟩, hc66, h0⟩ := bindS h0
        try dsimp only at h0
        refine OpsT.cons (Does.call (d := some 66) (n := 24) (vs := [.agg ((([.slice A39 y38.length cp40, .slice A42 y41.length cp43] : List Value))).toArray, .int .i64 a1.Logic]) (by kernel_rfl) en24 (c24 w0 w _ _ hI A39 cp40 y38 hr65 A42 cp43 y41 (hr44.mono (Hp.le_trans hle57 hle64)) a1.Logic _ hc66) ?_)
        rintro e w ⟨rfl, hI⟩
        refine ⟨_, rfl, ?_⟩
        refine OpsT.pures (r := [7, 8, 9]) [4, 5, 6] [2, 3, 4, 7, 9, 10, 11, 12, 13, 67, 68] (S' := [(2, .int .i64 a2), (3, .pointer (some ⟨b1, 0, none⟩)), (4, .pointer (some ⟨b2, 0, none⟩)), (7, .bool y4), (9, .pointer (some ⟨b33, 0, none⟩)), (10, .pointer (some ⟨b47, 0, none⟩)), (11, .pointer (some ⟨b58, 0, none⟩)), (12, .pointer (some ⟨b62, 0, none⟩)), (13, .bool y61), (67, .agg (c_RootEntry y67).toArray), (68, .bool y68)]) (by kernel_rfl) ?_
        refine OpsT.cons (Does.allocL (d := 14) (T := 47) (c_RootEntry (RootEntry.mk 0 0 0 0)) (by kernel_rfl) ty47 hI (by kernel_rfl) ?_)
        intro b69 w hI
        refine OpsT.cons (Does.storeLit (T := 47) (b := b69) (o := 0) (v := .agg (c_RootEntry y67).toArray) (l := c_RootEntry (RootEntry.mk 0 0 0 0)) (vs := c_RootEntry y67) (L' := c_RootEntry y67) (by kernel_rfl) ty47 hI (by kernel_rfl) (by kernel_rfl) (by kernel_rfl) (by kernel_rfl) (by kernel_rfl) ?_)
        intro w hI
        refine OpsT.pures (r := []) [9] [2, 3, 4, 7, 9, 10, 11, 12, 13, 15] (S' := [(2, .int .i64 a2), (3, .pointer (some ⟨b1, 0, none⟩)), (4, .pointer (some ⟨b2, 0, none⟩)), (7, .bool y4), (9, .pointer (some ⟨b33, 0, none⟩)), (10, .pointer (some ⟨b47, 0, none⟩)), (11, .pointer (some ⟨b58, 0, none⟩)), (12, .pointer (some ⟨b62, 0, none⟩)), (13, .bool y61), (15, .bool y68)]) (by kernel_rfl) ?_
        refine OpsT.done ?_
        refine Qn.then ?_
        obtain ⟨r1, h1, h0⟩ := bindS h0
        refine CodT.meet (fun a w => ∃ (x72 : Bool) (Z70 : Hp), x72 = r1 ∧ Fr 109 [(6, .bool x72)] a ∧ Inv w0 Z70 w A ∧ Z63.le Z70) ?_ ?_
        ·
          have hI := hI.mono (pick4 _ _ _ _ _)
          obtain ⟨Z73, hle74, hr75, hI⟩ := ownS_freeze hI
          refine CodT.drawI (n := 41) [] (by kernel_rfl) (by kernel_rfl) hI ?_
          intro w hI
          refine GmT.p' 0 69 (.bool y4) (by kernel_rfl) (by kernel_rfl) ?_
          refine GmT.p' 1 70 (.bool y4) (by kernel_rfl) (by kernel_rfl) ?_
          by_cases hb76 : y4 = true
          · rw [if_pos hb76] at h1
            refine GmT.keep [2, 3, 4, 9, 10, 11, 12, 13, 15, 70] (S' := [(2, .int .i64 a2), (3, .pointer (some ⟨b1, 0, none⟩)), (4, .pointer (some ⟨b2, 0, none⟩)), (9, .pointer (some ⟨b33, 0, none⟩)), (10, .pointer (some ⟨b47, 0, none⟩)), (11, .pointer (some ⟨b58, 0, none⟩)), (12, .pointer (some ⟨b62, 0, none⟩)), (13, .bool y61), (15, .bool y68), (70, .bool true)]) (by simp only [hb76]; kernel_rfl) ?_
            refine GmT.r (i := 2) 2 (by kernel_rfl) (by kernel_rfl) (Yl.load (d := 71) (T := 25) (v := .agg ((([.slice A25 y24.length cp26, .slice A28 y27.length cp29] : List Value))).toArray) (by kernel_rfl) (ldBN ty25 (l := (([.slice A25 y24.length cp26, .slice A28 y27.length cp29] : List Value))) (o := 0) (cs := (([.slice A25 y24.length cp26, .slice A28 y27.length cp29] : List Value))) (pick5 _ _ _ _ _ _) (by kernel_rfl) (whole _ _ (by kernel_rfl)))) hI ?_
            obtain ⟨y78, hc77, h1⟩ := bindS h1
            try dsimp only at h1
            refine GmT.o (i := 3) (by kernel_rfl) (Does.call (d := some 72) (n := 14) (vs := [.agg ((([.slice A25 y24.length cp26, .slice A28 y27.length cp29] : List Value))).toArray]) (by kernel_rfl) en14 (c14 w0 w _ _ hI A25 cp26 y24 (hr36.mono (Hp.le_trans (Hp.le_trans (Hp.le_trans hle46 hle57) hle64) hle74)) A28 cp29 y27 (hr30.mono (Hp.le_trans (Hp.le_trans (Hp.le_trans (Hp.le_trans hle35 hle46) hle57) hle64) hle74)) _ hc77) ?_)
            rintro e w ⟨rfl, hI⟩
            refine ⟨_, rfl, ?_⟩
            refine ⟨fun _ _ => hI, ?_⟩
            refine GmT.p' 4 73 (.bool y78) (by kernel_rfl) (by kernel_rfl) ?_
            refine GmT.p' 5 74 (.bool y78) (by kernel_rfl) (by kernel_rfl) ?_
            by_cases hb79 : y78 = true
            · rw [if_pos hb79] at h1
              refine GmT.keep [2, 3, 4, 10, 11, 12, 13, 15, 74] (S' := [(2, .int .i64 a2), (3, .pointer (some ⟨b1, 0, none⟩)), (4, .pointer (some ⟨b2, 0, none⟩)), (10, .pointer (some ⟨b47, 0, none⟩)), (11, .pointer (some ⟨b58, 0, none⟩)), (12, .pointer (some ⟨b62, 0, none⟩)), (13, .bool y61), (15, .bool y68), (74, .bool true)]) (by simp only [hb79]; kernel_rfl) ?_
              refine GmT.r (i := 6) 2 (by kernel_rfl) (by kernel_rfl) (Yl.load (d := 75) (T := 25) (v := .agg ((([.slice A39 y38.length cp40, .slice A42 y41.length cp43] : List Value))).toArray) (by kernel_rfl) (ldBN ty25 (l := (([.slice A39 y38.length cp40, .slice A42 y41.length cp43] : List Value))) (o := 0) (cs := (([.slice A39 y38.length cp40, .slice A42 y41.length cp43] : List Value))) (pick4 _ _ _ _ _) (by kernel_rfl) (whole _ _ (by kernel_rfl)))) hI ?_
              obtain ⟨y81, hc80, h1⟩ := bindS h1
              try dsimp only at h1
              refine GmT.o (i := 7) (by kernel_rfl) (Does.call (d := some 76) (n := 14) (vs := [.agg ((([.slice A39 y38.length cp40, .slice A42 y41.length cp43] : List Value))).toArray]) (by kernel_rfl) en14 (c14 w0 w _ _ hI A39 cp40 y38 (hr65.mono hle74) A42 cp43 y41 (hr44.mono (Hp.le_trans (Hp.le_trans hle57 hle64) hle74)) _ hc80) ?_)
              rintro e w ⟨rfl, hI⟩
              refine ⟨_, rfl, ?_⟩
              refine ⟨fun _ _ => hI, ?_⟩
              refine GmT.p' 8 77 (.bool y81) (by kernel_rfl) (by kernel_rfl) ?_
              refine GmT.p' 9 78 (.bool y81) (by kernel_rfl) (by kernel_rfl) ?_
              by_cases hb82 : y81 = true
              · rw [if_pos hb82] at h1
                refine GmT.keep [2, 3, 4, 10, 11, 12, 13, 15, 78] (S' := [(2, .int .i64 a2), (3, .pointer (some ⟨b1, 0, none⟩)), (4, .pointer (some ⟨b2, 0, none⟩)), (10, .pointer (some ⟨b47, 0, none⟩)), (11, .pointer (some ⟨b58, 0, none⟩)), (12, .pointer (some ⟨b62, 0, none⟩)), (13, .bool y61), (15, .bool y68), (78, .bool true)]) (by simp only [hb82]; kernel_rfl) ?_
                refine GmT.r (i := 10) 2 (by kernel_rfl) (by kernel_rfl) (Yl.load (d := 79) (T := 25) (v := .agg ((([.slice A50 y49.length cp51, .slice A54 y53.length cp55] : List Value))).toArray) (by kernel_rfl) (ldBN ty25 (l := (([.slice A50 y49.length cp51, .slice A54 y53.length cp55] : List Value))) (o := 0) (cs := (([.slice A50 y49.length cp51, .slice A54 y53.length cp55] : List Value))) (pick3 _ _ _ _) (by kernel_rfl) (whole _ _ (by kernel_rfl)))) hI ?_
                obtain ⟨y84, hc83, h1⟩ := bindS h1
                try dsimp only at h1
                refine GmT.o (i := 11) (by kernel_rfl) (Does.call (d := some 80) (n := 14) (vs := [.agg ((([.slice A50 y49.length cp51, .slice A54 y53.length cp55] : List Value))).toArray]) (by kernel_rfl) en14 (c14 w0 w _ _ hI A50 cp51 y49 (hr52.mono (Hp.le_trans hle64 hle74)) A54 cp55 y53 hr75 _ hc83) ?_)
                rintro e w ⟨rfl, hI⟩
                refine ⟨_, rfl, ?_⟩
                refine ⟨fun _ _ => hI, ?_⟩
                refine GmT.p' 12 81 (.bool y84) (by kernel_rfl) (by kernel_rfl) ?_
                refine GmT.p' 13 82 (.bool y84) (by kernel_rfl) (by kernel_rfl) ?_
                by_cases hb85 : y84 = true
                · rw [if_pos hb85] at h1
                  refine GmT.keep [2, 3, 4, 10, 11, 12, 13, 15, 82] (S' := [(2, .int .i64 a2), (3, .pointer (some ⟨b1, 0, none⟩)), (4, .pointer (some ⟨b2, 0, none⟩)), (10, .pointer (some ⟨b47, 0, none⟩)), (11, .pointer (some ⟨b58, 0, none⟩)), (12, .pointer (some ⟨b62, 0, none⟩)), (13, .bool y61), (15, .bool y68), (82, .bool true)]) (by simp only [hb85]; kernel_rfl) ?_
                  refine GmT.p' 14 83 (.bool y61) (by kernel_rfl) (by kernel_rfl) ?_
                  refine GmT.p' 15 84 (.bool y61) (by kernel_rfl) (by kernel_rfl) ?_
                  refine GmT.p' 16 85 (.bool y61) (by kernel_rfl) (by kernel_rfl) ?_
                  by_cases hb86 : y61 = true
                  · rw [if_pos hb86] at h1
                    refine GmT.keep [2, 3, 4, 10, 11, 12, 15, 85] (S' := [(2, .int .i64 a2), (3, .pointer (some ⟨b1, 0, none⟩)), (4, .pointer (some ⟨b2, 0, none⟩)), (10, .pointer (some ⟨b47, 0, none⟩)), (11, .pointer (some ⟨b58, 0, none⟩)), (12, .pointer (some ⟨b62, 0, none⟩)), (15, .bool y68), (85, .bool true)]) (by simp only [hb86]; kernel_rfl) ?_
                    refine GmT.r (i := 17) 2 (by kernel_rfl) (by kernel_rfl) (Yl.load (d := 86) (T := 47) (v := .agg (c_RootEntry y60).toArray) (by kernel_rfl) (ldBN ty47 (l := c_RootEntry y60) (o := 0) (cs := c_RootEntry y60) (pick2 _ _ _) (by kernel_rfl) (whole _ _ (by kernel_rfl)))) hI ?_
                    refine GmT.r (i := 18) 2 (by kernel_rfl) (by kernel_rfl) (Yl.load (d := 87) (T := 47) (v := .agg (c_RootEntry a1).toArray) (by kernel_rfl) (ldBN ty47 (l := c_RootEntry a1) (o := 0) (cs := c_RootEntry a1) (pick6 _ _ _ _ _ _ _) (by kernel_rfl) (whole _ _ (by kernel_rfl)))) hI ?_
                    refine GmT.r (i := 19) 2 (by kernel_rfl) (by kernel_rfl) (Yl.eqlS (d := 88) (T := 47) (xs := ([.int .i64 y60.Logic, .int .i64 y60.Owner, .int .i64 y60.Block, .int .i64 y60.At] : List Value)) (ys := ([.int .i64 a1.Logic, .int .i64 a1.Owner, .int .i64 a1.Block, .int .i64 a1.At] : List Value)) (r := eq_RootEntry y60 a1) (by kernel_rfl) Go.Proofs.Try.underlying47 (by kernel_rfl) (by kernel_rfl) (.cons rfl (part1 (v := .int .i64 y60.Logic) ty3 (by kernel_rfl)) (part1 (v := .int .i64 a1.Logic) ty3 (by kernel_rfl)) (eqI Go.Proofs.Try.underlying3) (.cons rfl (part1 (v := .int .i64 y60.Owner) ty3 (by kernel_rfl)) (part1 (v := .int .i64 a1.Owner) ty3 (by kernel_rfl)) (eqI Go.Proofs.Try.underlying3) (.cons rfl (part1 (v := .int .i64 y60.Block) ty3 (by kernel_rfl)) (part1 (v := .int .i64 a1.Block) ty3 (by kernel_rfl)) (eqI Go.Proofs.Try.underlying3) (.cons rfl (part1 (v := .int .i64 y60.At) ty3 (by kernel_rfl)) (part1 (v := .int .i64 a1.At) ty3 (by kernel_rfl)) (eqI Go.Proofs.Try.underlying3) .nil))))) hI ?_
                    refine GmT.p' 20 89 (.bool (eq_RootEntry y60 a1)) (by kernel_rfl) (by kernel_rfl) ?_
                    refine GmT.p' 21 90 (.bool (eq_RootEntry y60 a1)) (by kernel_rfl) (by kernel_rfl) ?_
                    by_cases hb87 : (eq_RootEntry y60 a1) = true
                    · rw [if_pos hb87] at h1
                      refine GmT.keep [2, 3, 4, 10, 11, 15, 90] (S' := [(2, .int .i64 a2), (3, .pointer (some ⟨b1, 0, none⟩)), (4, .pointer (some ⟨b2, 0, none⟩)), (10, .pointer (some ⟨b47, 0, none⟩)), (11, .pointer (some ⟨b58, 0, none⟩)), (15, .bool y68), (90, .bool true)]) (by simp only [hb87]; kernel_rfl) ?_
                      refine GmT.p' 22 91 (.bool y68) (by kernel_rfl) (by kernel_rfl) ?_
                      refine GmT.p' 23 92 (.bool (!y68)) (by kernel_rfl) (by kernel_rfl) ?_
                      refine GmT.p' 24 93 (.bool (!y68)) (by kernel_rfl) (by kernel_rfl) ?_
                      refine GmT.p' 25 94 (.bool (!y68)) (by kernel_rfl) (by kernel_rfl) ?_
                      by_cases hb88 : (!y68) = true
                      · rw [if_pos hb88] at h1
                        refine GmT.keep [2, 3, 4, 10, 11, 94] (S' := [(2, .int .i64 a2), (3, .pointer (some ⟨b1, 0, none⟩)), (4, .pointer (some ⟨b2, 0, none⟩)), (10, .pointer (some ⟨b47, 0, none⟩)), (11, .pointer (some ⟨b58, 0, none⟩)), (94, .bool true)]) (by simp only [hb88]; kernel_rfl) ?_
                        refine GmT.p' 27 96 (.int .i64 a2) (by kernel_rfl) (by kernel_rfl) ?_
                        refine GmT.r (i := 26) 2 (by kernel_rfl) (by kernel_rfl) (Yl.load (d := 95) (T := 25) (v := .agg ((([.slice A50 y49.length cp51, .slice A54 y53.length cp55] : List Value))).toArray) (by kernel_rfl) (ldBN ty25 (l := (([.slice A50 y49.length cp51, .slice A54 y53.length cp55] : List Value))) (o := 0) (cs := (([.slice A50 y49.length cp51, .slice A54 y53.length cp55] : List Value))) (pick3 _ _ _ _) (by kernel_rfl) (whole _ _ (by kernel_rfl)))) hI ?_
                        refine GmT.r (i := 29) 2 (by kernel_rfl) (by kernel_rfl) (Yl.load (d := 98) (T := 25) (v := .agg ((([.slice A50 y49.length cp51, .slice A54 y53.length cp55] : List Value))).toArray) (by kernel_rfl) (ldBN ty25 (l := (([.slice A50 y49.length cp51, .slice A54 y53.length cp55] : List Value))) (o := 0) (cs := (([.slice A50 y49.length cp51, .slice A54 y53.length cp55] : List Value))) (pick3 _ _ _ _) (by kernel_rfl) (whole _ _ (by kernel_rfl)))) hI ?_
                        obtain ⟨⟨y90, y94⟩, hc89, h1⟩ := bindS h1
                        try dsimp only at h1
                        refine GmT.o (i := 28) (by kernel_rfl) (Does.call (d := some 97) (n := 23) (vs := [.agg ((([.slice A50 y49.length cp51, .slice A54 y53.length cp55] : List Value))).toArray, .int .i64 a2]) (by kernel_rfl) en23 (c23 w0 w _ _ hI A50 cp51 y49 (hr52.mono (Hp.le_trans hle64 hle74)) A54 cp55 y53 hr75 a2 _ hc89) ?_)
                        rintro e w ⟨A91, cp92, A95, cp96, Z97, hle98, rfl, hr93, hI⟩
                        refine ⟨_, rfl, ?_⟩
                        have hC := hI
                        have hC := hC.drop
                        have hC := hC.weaken hle98
                        refine ⟨fun _ _ => hC, ?_⟩
                        obtain ⟨Z99, hle100, hr101, hI⟩ := ownS_freeze hI
                        obtain ⟨y103, hc102, h1⟩ := bindS h1
                        try dsimp only at h1
                        refine GmT.o (i := 30) (by kernel_rfl) (Does.call (d := some 99) (n := 15) (vs := [.agg ((([.slice A91 y90.length cp92, .slice A95 y94.length cp96] : List Value))).toArray, .agg ((([.slice A50 y49.length cp51, .slice A54 y53.length cp55] : List Value))).toArray]) (by kernel_rfl) en15 (c15 w0 w _ _ hI A91 cp92 y90 (hr93.mono hle100) A95 cp96 y94 hr101 A50 cp51 y49 (hr52.mono (Hp.le_trans (Hp.le_trans (Hp.le_trans hle64 hle74) hle98) hle100)) A54 cp55 y53 (hr75.mono (Hp.le_trans hle98 hle100)) _ hc102) ?_)
                        rintro e w ⟨rfl, hI⟩
                        refine ⟨_, rfl, ?_⟩
                        have hC := hI
                        have hC := hC.weaken (Hp.le_trans hle98 hle100)
                        refine ⟨fun _ _ => hC, ?_⟩
                        refine GmT.p' 31 100 (.bool y103) (by kernel_rfl) (by kernel_rfl) ?_
                        refine GmT.p' 32 101 (.bool y103) (by kernel_rfl) (by kernel_rfl) ?_
                        by_cases hb104 : y103 = true
                        · rw [if_pos hb104] at h1
                          refine GmT.keep [3, 4, 10, 101] (S' := [(3, .pointer (some ⟨b1, 0, none⟩)), (4, .pointer (some ⟨b2, 0, none⟩)), (10, .pointer (some ⟨b47, 0, none⟩)), (101, .bool true)]) (by simp only [hb104]; kernel_rfl) ?_
                          refine GmT.p' 34 103 (.pointer (some ⟨b2, 0, none⟩)) (by kernel_rfl) (by kernel_rfl) ?_
                          have hC := hI
                          have hC := hC.weaken (Hp.le_trans hle98 hle100)
                          refine GmT.r (i := 33) 2 (by kernel_rfl) (by kernel_rfl) (Yl.load (d := 102) (T := 25) (v := .agg ((([.slice A_a0_Map a0_Map.length c_a0_Map, .slice A_a0_Gone a0_Gone.length c_a0_Gone] : List Value))).toArray) (by kernel_rfl) (ldBN ty25 (l := (([.slice A_a0_Map a0_Map.length c_a0_Map, .slice A_a0_Gone a0_Gone.length c_a0_Gone] : List Value))) (o := 0) (cs := (([.slice A_a0_Map a0_Map.length c_a0_Map, .slice A_a0_Gone a0_Gone.length c_a0_Gone] : List Value))) (pick7 _ _ _ _ _ _ _ _) (by kernel_rfl) (whole _ _ (by kernel_rfl)))) hC ?_
                          have hC := hI
                          have hC := hC.weaken (Hp.le_trans hle98 hle100)
                          refine GmT.r (i := 35) 2 (by kernel_rfl) (by kernel_rfl) (Yl.load (d := 104) (T := 3) (v := .int .i64 a1.Logic) (by kernel_rfl) (ldB ty3 (l := c_RootEntry a1) (o := 0) (v := .int .i64 a1.Logic) (pick6 _ _ _ _ _ _ _) (by kernel_rfl))) hC ?_
                          have hC := hI
                          have hC := hC.weaken (Hp.le_trans hle98 hle100)
                          refine GmT.r (i := 37) 2 (by kernel_rfl) (by kernel_rfl) (Yl.load (d := 106) (T := 25) (v := .agg ((([.slice A39 y38.length cp40, .slice A42 y41.length cp43] : List Value))).toArray) (by kernel_rfl) (ldBN ty25 (l := (([.slice A39 y38.length cp40, .slice A42 y41.length cp43] : List Value))) (o := 0) (cs := (([.slice A39 y38.length cp40, .slice A42 y41.length cp43] : List Value))) (pick4 _ _ _ _ _) (by kernel_rfl) (whole _ _ (by kernel_rfl)))) hC ?_
                          obtain ⟨⟨y106, y109⟩, hc105, h1⟩ := bindS h1
                          try dsimp only at h1
                          refine GmT.o (i := 36) (by kernel_rfl) (Does.call (d := some 105) (n := 22) (vs := [.agg ((([.slice A_a0_Map a0_Map.length c_a0_Map, .slice A_a0_Gone a0_Gone.length c_a0_Gone] : List Value))).toArray, .int .i64 a1.Logic]) (by kernel_rfl) en22 (c22 w0 w _ _ hI A_a0_Map c_a0_Map a0_Map (hr_a0_Map.mono (Hp.le_trans (Hp.le_trans (Hp.le_trans (Hp.le_trans (Hp.le_trans (Hp.le_trans (Hp.le_trans (Hp.le_trans (Hp.le_trans hle9 hle12) hle32) hle35) hle46) hle57) hle64) hle74) hle98) hle100)) A_a0_Gone c_a0_Gone a0_Gone (hr_a0_Gone.mono (Hp.le_trans (Hp.le_trans (Hp.le_trans (Hp.le_trans (Hp.le_trans (Hp.le_trans (Hp.le_trans (Hp.le_trans (Hp.le_trans hle9 hle12) hle32) hle35) hle46) hle57) hle64) hle74) hle98) hle100)) a1.Logic _ hc105) ?_)
                          rintro e w ⟨A107, cp108, A110, cp111, Z113, hle114, rfl, hr112, hI⟩
                          refine ⟨_, rfl, ?_⟩
                          have hC := hI
                          have hC := hC.drop
                          have hC := hC.weaken (Hp.le_trans (Hp.le_trans hle98 hle100) hle114)
                          refine ⟨fun _ _ => hC, ?_⟩
                          obtain ⟨Z115, hle116, hr117, hI⟩ := ownS_freeze hI
                          obtain ⟨y119, hc118, h1⟩ := bindS h1
                          try dsimp only at h1
                          refine GmT.o (i := 38) (by kernel_rfl) (Does.call (d := some 107) (n := 15) (vs := [.agg ((([.slice A107 y106.length cp108, .slice A110 y109.length cp111] : List Value))).toArray, .agg ((([.slice A39 y38.length cp40, .slice A42 y41.length cp43] : List Value))).toArray]) (by kernel_rfl) en15 (c15 w0 w _ _ hI A107 cp108 y106 hr117 A110 cp111 y109 (hr112.mono hle116) A39 cp40 y38 (hr65.mono (Hp.le_trans (Hp.le_trans (Hp.le_trans (Hp.le_trans hle74 hle98) hle100) hle114) hle116)) A42 cp43 y41 (hr44.mono (Hp.le_trans (Hp.le_trans (Hp.le_trans (Hp.le_trans (Hp.le_trans (Hp.le_trans hle57 hle64) hle74) hle98) hle100) hle114) hle116)) _ hc118) ?_)
                          rintro e w ⟨rfl, hI⟩
                          refine ⟨_, rfl, ?_⟩
                          have hC := hI
                          have hC := hC.weaken (Hp.le_trans (Hp.le_trans (Hp.le_trans hle98 hle100) hle114) hle116)
                          refine ⟨fun _ _ => hC, ?_⟩
                          refine GmT.p' 39 108 (.bool y119) (by kernel_rfl) (by kernel_rfl) ?_
                          refine GmT.p' 40 6 (.bool y119) (by kernel_rfl) (by kernel_rfl) ?_
                          refine GmT.done (by kernel_rfl) ?_
                          have hI := hI.drop
                          have hI := hI.drop
                          have hI := hI.drop
                          have hI := hI.drop
                          have hI := hI.drop
                          have hI := hI.drop
                          have hI := hI.drop
                          have e := someS h1
                          subst e
                          exact Qn.thenJ fun a ha => ⟨y119, Z115, rfl, ha.keep [6] (by kernel_rfl), hI, (Hp.le_trans (Hp.le_trans (Hp.le_trans (Hp.le_trans hle74 hle98) hle100) hle114) hle116)⟩
                        · rw [if_neg hb104] at h1
                          have hb104 : y103 = false := by simpa using hb104
                          refine GmT.keep [3, 4, 10, 101] (S' := [(3, .pointer (some ⟨b1, 0, none⟩)), (4, .pointer (some ⟨b2, 0, none⟩)), (10, .pointer (some ⟨b47, 0, none⟩)), (101, .bool false)]) (by simp only [hb104]; kernel_rfl) ?_
                          refine GmT.p' 33 102 (undef) (by kernel_rfl) (by kernel_rfl) ?_
                          refine GmT.p' 34 103 (undef) (by kernel_rfl) (by kernel_rfl) ?_
                          refine GmT.p' 35 104 (undef) (by kernel_rfl) (by kernel_rfl) ?_
                          refine GmT.p' 36 105 (undef) (by kernel_rfl) (by kernel_rfl) ?_
                          refine GmT.p' 37 106 (undef) (by kernel_rfl) (by kernel_rfl) ?_
                          refine GmT.p' 38 107 (undef) (by kernel_rfl) (by kernel_rfl) ?_
                          refine GmT.p' 39 108 (.bool false) (by kernel_rfl) (by kernel_rfl) ?_
                          refine GmT.p' 40 6 (.bool false) (by kernel_rfl) (by kernel_rfl) ?_
                          refine GmT.done (by kernel_rfl) ?_
                          have hI := hI.drop
                          have hI := hI.drop
                          have hI := hI.drop
                          have hI := hI.drop
                          have hI := hI.drop
                          have hI := hI.drop
                          have hI := hI.drop
                          have e := someS h1
                          subst e
                          exact Qn.thenJ fun a ha => ⟨false, Z99, rfl, ha.keep [6] (by kernel_rfl), hI, (Hp.le_trans (Hp.le_trans hle74 hle98) hle100)⟩
                      · rw [if_neg hb88] at h1
                        have hb88 : (!y68) = false := by simpa using hb88
                        refine GmT.keep [2, 3, 4, 10, 11, 94] (S' := [(2, .int .i64 a2), (3, .pointer (some ⟨b1, 0, none⟩)), (4, .pointer (some ⟨b2, 0, none⟩)), (10, .pointer (some ⟨b47, 0, none⟩)), (11, .pointer (some ⟨b58, 0, none⟩)), (94, .bool false)]) (by simp only [hb88]; kernel_rfl) ?_
                        refine GmT.p' 26 95 (undef) (by kernel_rfl) (by kernel_rfl) ?_
                        refine GmT.p' 27 96 (undef) (by kernel_rfl) (by kernel_rfl) ?_
                        refine GmT.p' 28 97 (undef) (by kernel_rfl) (by kernel_rfl) ?_
                        refine GmT.p' 29 98 (undef) (by kernel_rfl) (by kernel_rfl) ?_
                        refine GmT.p' 30 99 (undef) (by kernel_rfl) (by kernel_rfl) ?_
                        refine GmT.p' 31 100 (.bool false) (by kernel_rfl) (by kernel_rfl) ?_
                        refine GmT.p' 32 101 (.bool false) (by kernel_rfl) (by kernel_rfl) ?_
                        refine GmT.p' 33 102 (undef) (by kernel_rfl) (by kernel_rfl) ?_
                        refine GmT.p' 34 103 (undef) (by kernel_rfl) (by kernel_rfl) ?_
                        refine GmT.p' 35 104 (undef) (by kernel_rfl) (by kernel_rfl) ?_
                        refine GmT.p' 36 105 (undef) (by kernel_rfl) (by kernel_rfl) ?_
                        refine GmT.p' 37 106 (undef) (by kernel_rfl) (by kernel_rfl) ?_
                        refine GmT.p' 38 107 (undef) (by kernel_rfl) (by kernel_rfl) ?_
                        refine GmT.p' 39 108 (.bool false) (by kernel_rfl) (by kernel_rfl) ?_
                        refine GmT.p' 40 6 (.bool false) (by kernel_rfl) (by kernel_rfl) ?_
                        refine GmT.done (by kernel_rfl) ?_
                        have hI := hI.drop
                        have hI := hI.drop
                        have hI := hI.drop
                        have hI := hI.drop
                        have hI := hI.drop
                        have hI := hI.drop
                        have hI := hI.drop
                        have e := someS h1
                        subst e
                        exact Qn.thenJ fun a ha => ⟨false, Z73, rfl, ha.keep [6] (by kernel_rfl), hI, hle74⟩
                    · rw [if_neg hb87] at h1
                      have hb87 : (eq_RootEntry y60 a1) = false := by simpa using hb87
                      refine GmT.keep [2, 3, 4, 10, 11, 15, 90] (S' := [(2, .int .i64 a2), (3, .pointer (some ⟨b1, 0, none⟩)), (4, .pointer (some ⟨b2, 0, none⟩)), (10, .pointer (some ⟨b47, 0, none⟩)), (11, .pointer (some ⟨b58, 0, none⟩)), (15, .bool y68), (90, .bool false)]) (by simp only [hb87]; kernel_rfl) ?_
                      refine GmT.p' 22 91 (undef) (by kernel_rfl) (by kernel_rfl) ?_
                      refine GmT.p' 23 92 (undef) (by kernel_rfl) (by kernel_rfl) ?_
                      refine GmT.p' 24 93 (.bool false) (by kernel_rfl) (by kernel_rfl) ?_
                      refine GmT.p' 25 94 (.bool false) (by kernel_rfl) (by kernel_rfl) ?_
                      refine GmT.p' 26 95 (undef) (by kernel_rfl) (by kernel_rfl) ?_
                      refine GmT.p' 27 96 (undef) (by kernel_rfl) (by kernel_rfl) ?_
                      refine GmT.p' 28 97 (undef) (by kernel_rfl) (by kernel_rfl) ?_
                      refine GmT.p' 29 98 (undef) (by kernel_rfl) (by kernel_rfl) ?_
                      refine GmT.p' 30 99 (undef) (by kernel_rfl) (by kernel_rfl) ?_
                      refine GmT.p' 31 100 (.bool false) (by kernel_rfl) (by kernel_rfl) ?_
                      refine GmT.p' 32 101 (.bool false) (by kernel_rfl) (by kernel_rfl) ?_
                      refine GmT.p' 33 102 (undef) (by kernel_rfl) (by kernel_rfl) ?_
                      refine GmT.p' 34 103 (undef) (by kernel_rfl) (by kernel_rfl) ?_
                      refine GmT.p' 35 104 (undef) (by kernel_rfl) (by kernel_rfl) ?_
                      refine GmT.p' 36 105 (undef) (by kernel_rfl) (by kernel_rfl) ?_
                      refine GmT.p' 37 106 (undef) (by kernel_rfl) (by kernel_rfl) ?_
                      refine GmT.p' 38 107 (undef) (by kernel_rfl) (by kernel_rfl) ?_
                      refine GmT.p' 39 108 (.bool false) (by kernel_rfl) (by kernel_rfl) ?_
                      refine GmT.p' 40 6 (.bool false) (by kernel_rfl) (by kernel_rfl) ?_
                      refine GmT.done (by kernel_rfl) ?_
                      have hI := hI.drop
                      have hI := hI.drop
                      have hI := hI.drop
                      have hI := hI.drop
                      have hI := hI.drop
                      have hI := hI.drop
                      have hI := hI.drop
                      have e := someS h1
                      subst e
                      exact Qn.thenJ fun a ha => ⟨false, Z73, rfl, ha.keep [6] (by kernel_rfl), hI, hle74⟩
                  · rw [if_neg hb86] at h1
                    have hb86 : y61 = false := by simpa using hb86
                    refine GmT.keep [2, 3, 4, 10, 11, 12, 15, 85] (S' := [(2, .int .i64 a2), (3, .pointer (some ⟨b1, 0, none⟩)), (4, .pointer (some ⟨b2, 0, none⟩)), (10, .pointer (some ⟨b47, 0, none⟩)), (11, .pointer (some ⟨b58, 0, none⟩)), (12, .pointer (some ⟨b62, 0, none⟩)), (15, .bool y68), (85, .bool false)]) (by simp only [hb86]; kernel_rfl) ?_
                    refine GmT.p' 17 86 (undef) (by kernel_rfl) (by kernel_rfl) ?_
                    refine GmT.p' 18 87 (undef) (by kernel_rfl) (by kernel_rfl) ?_
                    refine GmT.p' 19 88 (undef) (by kernel_rfl) (by kernel_rfl) ?_
                    refine GmT.p' 20 89 (.bool false) (by kernel_rfl) (by kernel_rfl) ?_
                    refine GmT.p' 21 90 (.bool false) (by kernel_rfl) (by kernel_rfl) ?_
                    refine GmT.p' 22 91 (undef) (by kernel_rfl) (by kernel_rfl) ?_
                    refine GmT.p' 23 92 (undef) (by kernel_rfl) (by kernel_rfl) ?_
                    refine GmT.p' 24 93 (.bool false) (by kernel_rfl) (by kernel_rfl) ?_
                    refine GmT.p' 25 94 (.bool false) (by kernel_rfl) (by kernel_rfl) ?_
                    refine GmT.p' 26 95 (undef) (by kernel_rfl) (by kernel_rfl) ?_
                    refine GmT.p' 27 96 (undef) (by kernel_rfl) (by kernel_rfl) ?_
                    refine GmT.p' 28 97 (undef) (by kernel_rfl) (by kernel_rfl) ?_
                    refine GmT.p' 29 98 (undef) (by kernel_rfl) (by kernel_rfl) ?_
                    refine GmT.p' 30 99 (undef) (by kernel_rfl) (by kernel_rfl) ?_
                    refine GmT.p' 31 100 (.bool false) (by kernel_rfl) (by kernel_rfl) ?_
                    refine GmT.p' 32 101 (.bool false) (by kernel_rfl) (by kernel_rfl) ?_
                    refine GmT.p' 33 102 (undef) (by kernel_rfl) (by kernel_rfl) ?_
                    refine GmT.p' 34 103 (undef) (by kernel_rfl) (by kernel_rfl) ?_
                    refine GmT.p' 35 104 (undef) (by kernel_rfl) (by kernel_rfl) ?_
                    refine GmT.p' 36 105 (undef) (by kernel_rfl) (by kernel_rfl) ?_
                    refine GmT.p' 37 106 (undef) (by kernel_rfl) (by kernel_rfl) ?_
                    refine GmT.p' 38 107 (undef) (by kernel_rfl) (by kernel_rfl) ?_
                    refine GmT.p' 39 108 (.bool false) (by kernel_rfl) (by kernel_rfl) ?_
                    refine GmT.p' 40 6 (.bool false) (by kernel_rfl) (by kernel_rfl) ?_
                    refine GmT.done (by kernel_rfl) ?_
                    have hI := hI.drop
                    have hI := hI.drop
                    have hI := hI.drop
                    have hI := hI.drop
                    have hI := hI.drop
                    have hI := hI.drop
                    have hI := hI.drop
                    have e := someS h1
                    subst e
                    exact Qn.thenJ fun a ha => ⟨false, Z73, rfl, ha.keep [6] (by kernel_rfl), hI, hle74⟩
                · rw [if_neg hb85] at h1
                  have hb85 : y84 = false := by simpa using hb85
                  refine GmT.keep [2, 3, 4, 10, 11, 12, 13, 15, 82] (S' := [(2, .int .i64 a2), (3, .pointer (some ⟨b1, 0, none⟩)), (4, .pointer (some ⟨b2, 0, none⟩)), (10, .pointer (some ⟨b47, 0, none⟩)), (11, .pointer (some ⟨b58, 0, none⟩)), (12, .pointer (some ⟨b62, 0, none⟩)), (13, .bool y61), (15, .bool y68), (82, .bool false)]) (by simp only [hb85]; kernel_rfl) ?_
                  refine GmT.p' 14 83 (undef) (by kernel_rfl) (by kernel_rfl) ?_
                  refine GmT.p' 15 84 (.bool false) (by kernel_rfl) (by kernel_rfl) ?_
                  refine GmT.p' 16 85 (.bool false) (by kernel_rfl) (by kernel_rfl) ?_
                  refine GmT.p' 17 86 (undef) (by kernel_rfl) (by kernel_rfl) ?_
                  refine GmT.p' 18 87 (undef) (by kernel_rfl) (by kernel_rfl) ?_
                  refine GmT.p' 19 88 (undef) (by kernel_rfl) (by kernel_rfl) ?_
                  refine GmT.p' 20 89 (.bool false) (by kernel_rfl) (by kernel_rfl) ?_
                  refine GmT.p' 21 90 (.bool false) (by kernel_rfl) (by kernel_rfl) ?_
                  refine GmT.p' 22 91 (undef) (by kernel_rfl) (by kernel_rfl) ?_
                  refine GmT.p' 23 92 (undef) (by kernel_rfl) (by kernel_rfl) ?_
                  refine GmT.p' 24 93 (.bool false) (by kernel_rfl) (by kernel_rfl) ?_
                  refine GmT.p' 25 94 (.bool false) (by kernel_rfl) (by kernel_rfl) ?_
                  refine GmT.p' 26 95 (undef) (by kernel_rfl) (by kernel_rfl) ?_
                  refine GmT.p' 27 96 (undef) (by kernel_rfl) (by kernel_rfl) ?_
                  refine GmT.p' 28 97 (undef) (by kernel_rfl) (by kernel_rfl) ?_
                  refine GmT.p' 29 98 (undef) (by kernel_rfl) (by kernel_rfl) ?_
                  refine GmT.p' 30 99 (undef) (by kernel_rfl) (by kernel_rfl) ?_
                  refine GmT.p' 31 100 (.bool false) (by kernel_rfl) (by kernel_rfl) ?_
                  refine GmT.p' 32 101 (.bool false) (by kernel_rfl) (by kernel_rfl) ?_
                  refine GmT.p' 33 102 (undef) (by kernel_rfl) (by kernel_rfl) ?_
                  refine GmT.p' 34 103 (undef) (by kernel_rfl) (by kernel_rfl) ?_
                  refine GmT.p' 35 104 (undef) (by kernel_rfl) (by kernel_rfl) ?_
                  refine GmT.p' 36 105 (undef) (by kernel_rfl) (by kernel_rfl) ?_
                  refine GmT.p' 37 106 (undef) (by kernel_rfl) (by kernel_rfl) ?_
                  refine GmT.p' 38 107 (undef) (by kernel_rfl) (by kernel_rfl) ?_
                  refine GmT.p' 39 108 (.bool false) (by kernel_rfl) (by kernel_rfl) ?_
                  refine GmT.p' 40 6 (.bool false) (by kernel_rfl) (by kernel_rfl) ?_
                  refine GmT.done (by kernel_rfl) ?_
                  have hI := hI.drop
                  have hI := hI.drop
                  have hI := hI.drop
                  have hI := hI.drop
                  have hI := hI.drop
                  have hI := hI.drop
                  have hI := hI.drop
                  have e := someS h1
                  subst e
                  exact Qn.thenJ fun a ha => ⟨false, Z73, rfl, ha.keep [6] (by kernel_rfl), hI, hle74⟩
              · rw [if_neg hb82] at h1
                have hb82 : y81 = false := by simpa using hb82
                refine GmT.keep [2, 3, 4, 10, 11, 12, 13, 15, 78] (S' := [(2, .int .i64 a2), (3, .pointer (some ⟨b1, 0, none⟩)), (4, .pointer (some ⟨b2, 0, none⟩)), (10, .pointer (some ⟨b47, 0, none⟩)), (11, .pointer (some ⟨b58, 0, none⟩)), (12, .pointer (some ⟨b62, 0, none⟩)), (13, .bool y61), (15, .bool y68), (78, .bool false)]) (by simp only [hb82]; kernel_rfl) ?_
                refine GmT.p' 10 79 (undef) (by kernel_rfl) (by kernel_rfl) ?_
                refine GmT.p' 11 80 (undef) (by kernel_rfl) (by kernel_rfl) ?_
                refine GmT.p' 12 81 (.bool false) (by kernel_rfl) (by kernel_rfl) ?_
                refine GmT.p' 13 82 (.bool false) (by kernel_rfl) (by kernel_rfl) ?_
                refine GmT.p' 14 83 (undef) (by kernel_rfl) (by kernel_rfl) ?_
                refine GmT.p' 15 84 (.bool false) (by kernel_rfl) (by kernel_rfl) ?_
                refine GmT.p' 16 85 (.bool false) (by kernel_rfl) (by kernel_rfl) ?_
                refine GmT.p' 17 86 (undef) (by kernel_rfl) (by kernel_rfl) ?_
                refine GmT.p' 18 87 (undef) (by kernel_rfl) (by kernel_rfl) ?_
                refine GmT.p' 19 88 (undef) (by kernel_rfl) (by kernel_rfl) ?_
                refine GmT.p' 20 89 (.bool false) (by kernel_rfl) (by kernel_rfl) ?_
                refine GmT.p' 21 90 (.bool false) (by kernel_rfl) (by kernel_rfl) ?_
                refine GmT.p' 22 91 (undef) (by kernel_rfl) (by kernel_rfl) ?_
                refine GmT.p' 23 92 (undef) (by kernel_rfl) (by kernel_rfl) ?_
                refine GmT.p' 24 93 (.bool false) (by kernel_rfl) (by kernel_rfl) ?_
                refine GmT.p' 25 94 (.bool false) (by kernel_rfl) (by kernel_rfl) ?_
                refine GmT.p' 26 95 (undef) (by kernel_rfl) (by kernel_rfl) ?_
                refine GmT.p' 27 96 (undef) (by kernel_rfl) (by kernel_rfl) ?_
                refine GmT.p' 28 97 (undef) (by kernel_rfl) (by kernel_rfl) ?_
                refine GmT.p' 29 98 (undef) (by kernel_rfl) (by kernel_rfl) ?_
                refine GmT.p' 30 99 (undef) (by kernel_rfl) (by kernel_rfl) ?_
                refine GmT.p' 31 100 (.bool false) (by kernel_rfl) (by kernel_rfl) ?_
                refine GmT.p' 32 101 (.bool false) (by kernel_rfl) (by kernel_rfl) ?_
                refine GmT.p' 33 102 (undef) (by kernel_rfl) (by kernel_rfl) ?_
                refine GmT.p' 34 103 (undef) (by kernel_rfl) (by kernel_rfl) ?_
                refine GmT.p' 35 104 (undef) (by kernel_rfl) (by kernel_rfl) ?_
                refine GmT.p' 36 105 (undef) (by kernel_rfl) (by kernel_rfl) ?_
                refine GmT.p' 37 106 (undef) (by kernel_rfl) (by kernel_rfl) ?_
                refine GmT.p' 38 107 (undef) (by kernel_rfl) (by kernel_rfl) ?_
                refine GmT.p' 39 108 (.bool false) (by kernel_rfl) (by kernel_rfl) ?_
                refine GmT.p' 40 6 (.bool false) (by kernel_rfl) (by kernel_rfl) ?_
                refine GmT.done (by kernel_rfl) ?_
                have hI := hI.drop
                have hI := hI.drop
                have hI := hI.drop
                have hI := hI.drop
                have hI := hI.drop
                have hI := hI.drop
                have hI := hI.drop
                have e := someS h1
                subst e
                exact Qn.thenJ fun a ha => ⟨false, Z73, rfl, ha.keep [6] (by kernel_rfl), hI, hle74⟩
            · rw [if_neg hb79] at h1
              have hb79 : y78 = false := by simpa using hb79
              refine GmT.keep [2, 3, 4, 10, 11, 12, 13, 15, 74] (S' := [(2, .int .i64 a2), (3, .pointer (some ⟨b1, 0, none⟩)), (4, .pointer (some ⟨b2, 0, none⟩)), (10, .pointer (some ⟨b47, 0, none⟩)), (11, .pointer (some ⟨b58, 0, none⟩)), (12, .pointer (some ⟨b62, 0, none⟩)), (13, .bool y61), (15, .bool y68), (74, .bool false)]) (by simp only [hb79]; kernel_rfl) ?_
              refine GmT.p' 6 75 (undef) (by kernel_rfl) (by kernel_rfl) ?_
              refine GmT.p' 7 76 (undef) (by kernel_rfl) (by kernel_rfl) ?_
              refine GmT.p' 8 77 (.bool false) (by kernel_rfl) (by kernel_rfl) ?_
              refine GmT.p' 9 78 (.bool false) (by kernel_rfl) (by kernel_rfl) ?_
              refine GmT.p' 10 79 (undef) (by kernel_rfl) (by kernel_rfl) ?_
              refine GmT.p' 11 80 (undef) (by kernel_rfl) (by kernel_rfl) ?_
              refine GmT.p' 12 81 (.bool false) (by kernel_rfl) (by kernel_rfl) ?_
              refine GmT.p' 13 82 (.bool false) (by kernel_rfl) (by kernel_rfl) ?_
              refine GmT.p' 14 83 (undef) (by kernel_rfl) (by kernel_rfl) ?_
              refine GmT.p' 15 84 (.bool false) (by kernel_rfl) (by kernel_rfl) ?_
              refine GmT.p' 16 85 (.bool false) (by kernel_rfl) (by kernel_rfl) ?_
              refine GmT.p' 17 86 (undef) (by kernel_rfl) (by kernel_rfl) ?_
              refine GmT.p' 18 87 (undef) (by kernel_rfl) (by kernel_rfl) ?_
              refine GmT.p' 19 88 (undef) (by kernel_rfl) (by kernel_rfl) ?_
              refine GmT.p' 20 89 (.bool false) (by kernel_rfl) (by kernel_rfl) ?_
              refine GmT.p' 21 90 (.bool false) (by kernel_rfl) (by kernel_rfl) ?_
              refine GmT.p' 22 91 (undef) (by kernel_rfl) (by kernel_rfl) ?_
              refine GmT.p' 23 92 (undef) (by kernel_rfl) (by kernel_rfl) ?_
              refine GmT.p' 24 93 (.bool false) (by kernel_rfl) (by kernel_rfl) ?_
              refine GmT.p' 25 94 (.bool false) (by kernel_rfl) (by kernel_rfl) ?_
              refine GmT.p' 26 95 (undef) (by kernel_rfl) (by kernel_rfl) ?_
              refine GmT.p' 27 96 (undef) (by kernel_rfl) (by kernel_rfl) ?_
              refine GmT.p' 28 97 (undef) (by kernel_rfl) (by kernel_rfl) ?_
              refine GmT.p' 29 98 (undef) (by kernel_rfl) (by kernel_rfl) ?_
              refine GmT.p' 30 99 (undef) (by kernel_rfl) (by kernel_rfl) ?_
              refine GmT.p' 31 100 (.bool false) (by kernel_rfl) (by kernel_rfl) ?_
              refine GmT.p' 32 101 (.bool false) (by kernel_rfl) (by kernel_rfl) ?_
              refine GmT.p' 33 102 (undef) (by kernel_rfl) (by kernel_rfl) ?_
              refine GmT.p' 34 103 (undef) (by kernel_rfl) (by kernel_rfl) ?_
              refine GmT.p' 35 104 (undef) (by kernel_rfl) (by kernel_rfl) ?_
              refine GmT.p' 36 105 (undef) (by kernel_rfl) (by kernel_rfl) ?_
              refine GmT.p' 37 106 (undef) (by kernel_rfl) (by kernel_rfl) ?_
              refine GmT.p' 38 107 (undef) (by kernel_rfl) (by kernel_rfl) ?_
              refine GmT.p' 39 108 (.bool false) (by kernel_rfl) (by kernel_rfl) ?_
              refine GmT.p' 40 6 (.bool false) (by kernel_rfl) (by kernel_rfl) ?_
              refine GmT.done (by kernel_rfl) ?_
              have hI := hI.drop
              have hI := hI.drop
              have hI := hI.drop
              have hI := hI.drop
              have hI := hI.drop
              have hI := hI.drop
              have hI := hI.drop
              have e := someS h1
              subst e
              exact Qn.thenJ fun a ha => ⟨false, Z73, rfl, ha.keep [6] (by kernel_rfl), hI, hle74⟩
          · rw [if_neg hb76] at h1
            have hb76 : y4 = false := by simpa using hb76
            refine GmT.keep [2, 3, 4, 9, 10, 11, 12, 13, 15, 70] (S' := [(2, .int .i64 a2), (3, .pointer (some ⟨b1, 0, none⟩)), (4, .pointer (some ⟨b2, 0, none⟩)), (9, .pointer (some ⟨b33, 0, none⟩)), (10, .pointer (some ⟨b47, 0, none⟩)), (11, .pointer (some ⟨b58, 0, none⟩)), (12, .pointer (some ⟨b62, 0, none⟩)), (13, .bool y61), (15, .bool y68), (70, .bool false)]) (by simp only [hb76]; kernel_rfl) ?_
            refine GmT.p' 2 71 (undef) (by kernel_rfl) (by kernel_rfl) ?_
            refine GmT.p' 3 72 (undef) (by kernel_rfl) (by kernel_rfl) ?_
            refine GmT.p' 4 73 (.bool false) (by kernel_rfl) (by kernel_rfl) ?_
            refine GmT.p' 5 74 (.bool false) (by kernel_rfl) (by kernel_rfl) ?_
            refine GmT.p' 6 75 (undef) (by kernel_rfl) (by kernel_rfl) ?_
            refine GmT.p' 7 76 (undef) (by kernel_rfl) (by kernel_rfl) ?_
            refine GmT.p' 8 77 (.bool false) (by kernel_rfl) (by kernel_rfl) ?_
            refine GmT.p' 9 78 (.bool false) (by kernel_rfl) (by kernel_rfl) ?_
            refine GmT.p' 10 79 (undef) (by kernel_rfl) (by kernel_rfl) ?_
            refine GmT.p' 11 80 (undef) (by kernel_rfl) (by kernel_rfl) ?_
            refine GmT.p' 12 81 (.bool false) (by kernel_rfl) (by kernel_rfl) ?_
            refine GmT.p' 13 82 (.bool false) (by kernel_rfl) (by kernel_rfl) ?_
            refine GmT.p' 14 83 (undef) (by kernel_rfl) (by kernel_rfl) ?_
            refine GmT.p' 15 84 (.bool false) (by kernel_rfl) (by kernel_rfl) ?_
            refine GmT.p' 16 85 (.bool false) (by kernel_rfl) (by kernel_rfl) ?_
            refine GmT.p' 17 86 (undef) (by kernel_rfl) (by kernel_rfl) ?_
            refine GmT.p' 18 87 (undef) (by kernel_rfl) (by kernel_rfl) ?_
            refine GmT.p' 19 88 (undef) (by kernel_rfl) (by kernel_rfl) ?_
            refine GmT.p' 20 89 (.bool false) (by kernel_rfl) (by kernel_rfl) ?_
            refine GmT.p' 21 90 (.bool false) (by kernel_rfl) (by kernel_rfl) ?_
            refine GmT.p' 22 91 (undef) (by kernel_rfl) (by kernel_rfl) ?_
            refine GmT.p' 23 92 (undef) (by kernel_rfl) (by kernel_rfl) ?_
            refine GmT.p' 24 93 (.bool false) (by kernel_rfl) (by kernel_rfl) ?_
            refine GmT.p' 25 94 (.bool false) (by kernel_rfl) (by kernel_rfl) ?_
            refine GmT.p' 26 95 (undef) (by kernel_rfl) (by kernel_rfl) ?_
            refine GmT.p' 27 96 (undef) (by kernel_rfl) (by kernel_rfl) ?_
            refine GmT.p' 28 97 (undef) (by kernel_rfl) (by kernel_rfl) ?_
            refine GmT.p' 29 98 (undef) (by kernel_rfl) (by kernel_rfl) ?_
            refine GmT.p' 30 99 (undef) (by kernel_rfl) (by kernel_rfl) ?_
            refine GmT.p' 31 100 (.bool false) (by kernel_rfl) (by kernel_rfl) ?_
            refine GmT.p' 32 101 (.bool false) (by kernel_rfl) (by kernel_rfl) ?_
            refine GmT.p' 33 102 (undef) (by kernel_rfl) (by kernel_rfl) ?_
            refine GmT.p' 34 103 (undef) (by kernel_rfl) (by kernel_rfl) ?_
            refine GmT.p' 35 104 (undef) (by kernel_rfl) (by kernel_rfl) ?_
            refine GmT.p' 36 105 (undef) (by kernel_rfl) (by kernel_rfl) ?_
            refine GmT.p' 37 106 (undef) (by kernel_rfl) (by kernel_rfl) ?_
            refine GmT.p' 38 107 (undef) (by kernel_rfl) (by kernel_rfl) ?_
            refine GmT.p' 39 108 (.bool false) (by kernel_rfl) (by kernel_rfl) ?_
            refine GmT.p' 40 6 (.bool false) (by kernel_rfl) (by kernel_rfl) ?_
            refine GmT.done (by kernel_rfl) ?_
            have hI := hI.drop
            have hI := hI.drop
            have hI := hI.drop
            have hI := hI.drop
            have hI := hI.drop
            have hI := hI.drop
            have hI := hI.drop
            have e := someS h1
            subst e
            exact Qn.thenJ fun a ha => ⟨false, Z73, rfl, ha.keep [6] (by kernel_rfl), hI, hle74⟩
        ·
          rintro a w ⟨x72, Z70, rfl, ha, hI, hle71⟩
          try dsimp only at h0
          refine CodT.of ?_ ha
          refine CodT.ret ?_
          have e := someS h0
          subst e
          refine Qn.keep [6] (S' := [(6, .bool x72)]) (by kernel_rfl) ?_
          exact post_ret (v := .bool x72) (fun a ha => RunRes.run (vs := [.bool x72]) (.tmp (t := 6) (by kernel_rfl) .nil) ha (by kernel_rfl)) ⟨rfl, hI.weaken (Hp.le_trans (Hp.le_trans (Hp.le_trans (Hp.le_trans (Hp.le_trans (Hp.le_trans (Hp.le_trans hle9 hle12) hle32) hle35) hle46) hle57) hle64) hle71)⟩
end Go.Cen
