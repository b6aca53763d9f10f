/- The walk of the law RootFinds, printed by a program of ours. -/
import Derived.Test.YthdoklobbcedcabWx4
set_option linter.unusedVariables false
set_option linter.unusedSimpArgs false
namespace Go.Cen
set_option maxRecDepth 100000 in
set_option maxHeartbeats 4000000 in
/-- cenotaph/cenotaphlaw15.RootFinds -/
theorem c7 (w0 w : World) (Z : Hp) (A : HP) (hI : Inv w0 Z w A) (A_a0_Map : Option Addr) (c_a0_Map : Nat) (a0_Map : (List RootEntry)) (hr_a0_Map : RdS Z c_RootEntry 4 A_a0_Map c_a0_Map a0_Map) (A_a0_Gone : Option Addr) (c_a0_Gone : Nat) (a0_Gone : (List Int)) (hr_a0_Gone : RdS Z (cI .i64) 1 A_a0_Gone c_a0_Gone a0_Gone) (a1 : RootEntry) (a2 : Int) (r : Bool) (h0 : law15_RootFinds a0_Map a0_Gone a1 a2 = some r) :
    Calls prog 7 #[.agg ((([.slice A_a0_Map a0_Map.length c_a0_Map, .slice A_a0_Gone a0_Gone.length c_a0_Gone] : List Value))).toArray, .agg (c_RootEntry a1).toArray, .int .i64 a2] w (fun e w' => e = .returned (.bool r) ∧ Inv w0 Z w' A) := by
  have e4 := calls_intro (R := (fun e w' => e = .returned (.bool r) ∧ Inv w0 Z w' A)) (w := w) (args := [.agg ((([.slice A_a0_Map a0_Map.length c_a0_Map, .slice A_a0_Gone a0_Gone.length c_a0_Gone] : List Value))).toArray, .agg (c_RootEntry a1).toArray, .int .i64 a2]) (fn := Go.Proofs.Try.f7) 76 Go.Proofs.Try.func7 (by rfl) Go.Proofs.Try.ntmps7 (by kernel_rfl)
  refine e4 ?_
  clear e4
  unfold law15_RootFinds at h0
  refine CodT.seq ?_
  refine CodT.regionL [0, 1, 2] (by kernel_rfl) ?_
  refine OpsT.cons (Does.boxL (d := 3) (T := 25) (v := .agg ((([.slice A_a0_Map a0_Map.length c_a0_Map, .slice A_a0_Gone a0_Gone.length c_a0_Gone] : List Value))).toArray) ((([.slice A_a0_Map a0_Map.length c_a0_Map, .slice A_a0_Gone a0_Gone.length c_a0_Gone] : List Value))) (by kernel_rfl) hI (by kernel_rfl) ?_)
  intro b1 w hI
  refine OpsT.cons (Does.boxL (d := 4) (T := 47) (v := .agg (c_RootEntry a1).toArray) (c_RootEntry a1) (by kernel_rfl) hI (by kernel_rfl) ?_)
  intro b2 w hI
  refine OpsT.pures (r := []) [2] [2, 3, 4] (S' := [(2, .int .i64 a2), (3, .pointer (some ⟨b1, 0, none⟩)), (4, .pointer (some ⟨b2, 0, none⟩))]) (by kernel_rfl) ?_
  refine OpsT.done ?_
  refine Qn.then ?_
  refine CodT.seq ?_
  refine CodT.regionL [0, 1] (by kernel_rfl) ?_
  obtain ⟨y4, hc3, h0⟩ := bindS h0
  try dsimp only at h0
  refine OpsT.cons (Does.call (d := some 15) (n := 10) (vs := []) (by kernel_rfl) en10 (c10 w0 w _ _ hI _ hc3) ?_)
  rintro e w ⟨rfl, hI⟩
  refine ⟨_, rfl, ?_⟩
  refine OpsT.pures (r := []) [1] [2, 3, 4, 7] (S' := [(2, .int .i64 a2), (3, .pointer (some ⟨b1, 0, none⟩)), (4, .pointer (some ⟨b2, 0, none⟩)), (7, .bool y4)]) (by kernel_rfl) ?_
  refine OpsT.done ?_
  refine Qn.then ?_
  refine CodT.seq ?_
  refine CodT.seq ?_
  refine CodT.regionL [0, 1] (by kernel_rfl) ?_
  refine OpsT.pures (r := []) [0, 1] [2, 3, 4, 7, 17] (S' := [(2, .int .i64 a2), (3, .pointer (some ⟨b1, 0, none⟩)), (4, .pointer (some ⟨b2, 0, none⟩)), (7, .bool y4), (17, .bool (!y4))]) (by kernel_rfl) ?_
  refine OpsT.done ?_
  refine Qn.then ?_
  by_cases hb5 : (!y4) = true
  · rw [if_pos hb5] at h0
    refine CodT.yes' (b := !y4) (by kernel_rfl) hb5 ?_
    refine CodT.seq ?_
    refine CodT.regionL [0] (by kernel_rfl) ?_
    refine OpsT.pures (r := []) [0] [6] (S' := [(6, .bool false)]) (by kernel_rfl) ?_
    refine OpsT.done ?_
    refine Qn.then ?_
    refine CodT.ret ?_
    refine Qn.ret_then ?_
    have hI := hI.drop
    have hI := hI.drop
    have e := someS h0
    subst e
    refine Qn.keep [6] (S' := [(6, .bool false)]) (by kernel_rfl) ?_
    exact post_ret (v := .bool false) (fun a ha => RunRes.run (vs := [.bool false]) (.tmp (t := 6) (by kernel_rfl) .nil) ha (by kernel_rfl)) ⟨rfl, hI⟩
  · rw [if_neg hb5] at h0
    refine CodT.no' (b := !y4) (by kernel_rfl) (by simpa using hb5) ?_
    refine CodT.skip ?_
    refine Qn.then ?_
    refine CodT.seq ?_
    obtain ⟨r1, h1, h0⟩ := bindS h0
    refine CodT.meet (fun a w => ∃ (x6 : Bool), x6 = r1 ∧ Fr 76 [(2, .int .i64 a2), (3, .pointer (some ⟨b1, 0, none⟩)), (4, .pointer (some ⟨b2, 0, none⟩)), (7, .bool y4), (28, .bool x6)] a ∧ Inv w0 Z w (star (pt b2 (.cells (c_RootEntry a1).toArray 47 (0, 0))) (star (pt b1 (.cells ((([.slice A_a0_Map a0_Map.length c_a0_Map, .slice A_a0_Gone a0_Gone.length c_a0_Gone] : List Value))).toArray 25 (0, 0))) A))) ?_ ?_
    ·
      refine CodT.regionL [0, 1, 2, 3, 4, 5, 6, 7, 8, 9, 10] (by kernel_rfl) ?_
      refine OpsT.pures (r := [1, 2, 3, 4, 5, 6, 7, 8, 9, 10]) [0] [2, 3, 4, 7, 18] (S' := [(2, .int .i64 a2), (3, .pointer (some ⟨b1, 0, none⟩)), (4, .pointer (some ⟨b2, 0, none⟩)), (7, .bool y4), (18, .pointer (some ⟨b1, 0, none⟩))]) (by kernel_rfl) ?_
      refine OpsT.cons (Does.yi (Yl.load (d := 19) (T := 22) (v := .slice A_a0_Map a0_Map.length c_a0_Map) (by kernel_rfl) (ldB ty22 (l := (([.slice A_a0_Map a0_Map.length c_a0_Map, .slice A_a0_Gone a0_Gone.length c_a0_Gone] : List Value))) (o := 0) (v := .slice A_a0_Map a0_Map.length c_a0_Map) (pick2 _ _ _) (by kernel_rfl))) hI ?_)
      refine OpsT.pures (r := [5, 6, 7, 8, 9, 10]) [2, 3, 4] [2, 3, 4, 7, 22] (S' := [(2, .int .i64 a2), (3, .pointer (some ⟨b1, 0, none⟩)), (4, .pointer (some ⟨b2, 0, none⟩)), (7, .bool y4), (22, .bool (decide ((a0_Map.length : Int) > 60)))]) (by kernel_rfl) ?_
      by_cases hb7 : (decide ((a0_Map.length : Int) > 60)) = true
      · rw [if_pos hb7] at h1
        refine OpsT.keep [2, 3, 4, 7, 22] (S' := [(2, .int .i64 a2), (3, .pointer (some ⟨b1, 0, none⟩)), (4, .pointer (some ⟨b2, 0, none⟩)), (7, .bool y4), (22, .bool true)]) (by simp only [hb7]; kernel_rfl) ?_
        refine OpsT.pures (r := []) [5, 6, 7, 8, 9, 10] [2, 3, 4, 7, 28] (S' := [(2, .int .i64 a2), (3, .pointer (some ⟨b1, 0, none⟩)), (4, .pointer (some ⟨b2, 0, none⟩)), (7, .bool y4), (28, .bool true)]) (by kernel_rfl) ?_
        refine OpsT.done ?_
        have e := someS h1
        subst e
        exact Qn.thenJ fun a ha => ⟨true, rfl, ha.keep [2, 3, 4, 7, 28] (by kernel_rfl), hI⟩
      · rw [if_neg hb7] at h1
        have hb7 : (decide ((a0_Map.length : Int) > 60)) = false := by simpa using hb7
        refine OpsT.keep [2, 3, 4, 7, 22] (S' := [(2, .int .i64 a2), (3, .pointer (some ⟨b1, 0, none⟩)), (4, .pointer (some ⟨b2, 0, none⟩)), (7, .bool y4), (22, .bool false)]) (by simp only [hb7]; kernel_rfl) ?_
        refine OpsT.pures (r := [6, 7, 8, 9, 10]) [5] [2, 3, 4, 7, 22, 23] (S' := [(2, .int .i64 a2), (3, .pointer (some ⟨b1, 0, none⟩)), (4, .pointer (some ⟨b2, 0, none⟩)), (7, .bool y4), (22, .bool false), (23, .pointer (some ⟨b1, 0, none⟩))]) (by kernel_rfl) ?_
        refine OpsT.cons (Does.yi (Yl.load (d := 24) (T := 22) (v := .slice A_a0_Map a0_Map.length c_a0_Map) (by kernel_rfl) (ldB ty22 (l := (([.slice A_a0_Map a0_Map.length c_a0_Map, .slice A_a0_Gone a0_Gone.length c_a0_Gone] : List Value))) (o := 0) (v := .slice A_a0_Map a0_Map.length c_a0_Map) (pick2 _ _ _) (by kernel_rfl))) hI ?_)
        refine OpsT.pures (r := [8, 9, 10]) [7] [2, 3, 4, 7, 22, 25] (S' := [(2, .int .i64 a2), (3, .pointer (some ⟨b1, 0, none⟩)), (4, .pointer (some ⟨b2, 0, none⟩)), (7, .bool y4), (22, .bool false), (25, .agg ((([.slice A_a0_Map a0_Map.length c_a0_Map, .slice none 0 0] : List Value))).toArray)]) (by kernel_rfl) ?_
        obtain ⟨y9, hc8, h1⟩ := bindS h1
        try dsimp only at h1
        refine OpsT.cons (Does.call (d := some 26) (n := 14) (vs := [.agg ((([.slice A_a0_Map a0_Map.length c_a0_Map, .slice none 0 0] : List Value))).toArray]) (by kernel_rfl) en14 (c14 w0 w _ _ hI A_a0_Map c_a0_Map a0_Map hr_a0_Map none 0 ([] : List Int) (RdS.nil _ _ _ _ _ (Nat.zero_le _)) _ hc8) ?_)
        rintro e w ⟨rfl, hI⟩
        refine ⟨_, rfl, ?_⟩
        refine OpsT.pures (r := []) [9, 10] [2, 3, 4, 7, 28] (S' := [(2, .int .i64 a2), (3, .pointer (some ⟨b1, 0, none⟩)), (4, .pointer (some ⟨b2, 0, none⟩)), (7, .bool y4), (28, .bool (!y9))]) (by kernel_rfl) ?_
        refine OpsT.done ?_
        have e := someS h1
        subst e
        exact Qn.thenJ fun a ha => ⟨!y9, rfl, ha.keep [2, 3, 4, 7, 28] (by kernel_rfl), hI⟩
    ·
      rintro a w ⟨x6, rfl, ha, hI⟩
      try dsimp only at h0
      refine CodT.of ?_ ha
      by_cases hb10 : x6 = true
      · rw [if_pos hb10] at h0
        refine CodT.yes' (b := x6) (by kernel_rfl) hb10 ?_
        refine CodT.seq ?_
        refine CodT.regionL [0, 1] (by kernel_rfl) ?_
        refine OpsT.pures (r := []) [0, 1] [6] (S' := [(6, .bool y4)]) (by kernel_rfl) ?_
        refine OpsT.done ?_
        refine Qn.then ?_
        refine CodT.ret ?_
        refine Qn.ret_then ?_
        have hI := hI.drop
        have hI := hI.drop
        have e := someS h0
        subst e
        refine Qn.keep [6] (S' := [(6, .bool y4)]) (by kernel_rfl) ?_
        exact post_ret (v := .bool y4) (fun a ha => RunRes.run (vs := [.bool y4]) (.tmp (t := 6) (by kernel_rfl) .nil) ha (by kernel_rfl)) ⟨rfl, hI⟩
      · rw [if_neg hb10] at h0
        refine CodT.no' (b := x6) (by kernel_rfl) (by simpa using hb10) ?_
        refine CodT.skip ?_
        refine Qn.then ?_
        refine CodT.seq ?_
        refine CodT.regionL [0, 1, 2, 3, 4] (by kernel_rfl) ?_
        refine OpsT.cons (Does.yi (Yl.load (d := 30) (T := 25) (v := .agg ((([.slice A_a0_Map a0_Map.length c_a0_Map, .slice A_a0_Gone a0_Gone.length c_a0_Gone] : List Value))).toArray) (by kernel_rfl) (ldBN ty25 (l := (([.slice A_a0_Map a0_Map.length c_a0_Map, .slice A_a0_Gone a0_Gone.length c_a0_Gone] : List Value))) (o := 0) (cs := (([.slice A_a0_Map a0_Map.length c_a0_Map, .slice A_a0_Gone a0_Gone.length c_a0_Gone] : List Value))) (pick2 _ _ _) (by kernel_rfl) (whole _ _ (by kernel_rfl)))) hI ?_)
        refine OpsT.cons (Does.yi (Yl.load (d := 31) (T := 47) (v := .agg (c_RootEntry a1).toArray) (by kernel_rfl) (ldBN ty47 (l := c_RootEntry a1) (o := 0) (cs := c_RootEntry a1) (ent_refl _) (by kernel_rfl) (whole _ _ (by kernel_rfl)))) hI ?_)
        obtain ⟨⟨y12, y15⟩, hc11, h0⟩ := bindS h0
        try dsimp only at h0
        refine OpsT.cons (Does.call (d := some 32) (n := 21) (vs := [.agg ((([.slice A_a0_Map a0_Map.length c_a0_Map, .slice A_a0_Gone a0_Gone.length c_a0_Gone] : List Value))).toArray, .agg (c_RootEntry a1).toArray]) (by kernel_rfl) en21 (c21 w0 w _ _ hI A_a0_Map c_a0_Map a0_Map hr_a0_Map A_a0_Gone c_a0_Gone a0_Gone hr_a0_Gone a1 _ hc11) ?_)
        rintro e w ⟨A13, cp14, A16, cp17, Z19, hle20, rfl, hr18, hI⟩
        refine ⟨_, rfl, ?_⟩
        refine OpsT.cons (Does.allocL (d := 8) (T := 25) ((([.slice none 0 0, .slice none 0 0] : List Value))) (by kernel_rfl) ty25 hI (by kernel_rfl) ?_)
        intro b21 w hI
        refine OpsT.cons (Does.storeLit (T := 25) (b := b21) (o := 0) (v := .agg ((([.slice A13 y12.length cp14, .slice A16 y15.length cp17] : List Value))).toArray) (l := (([.slice none 0 0, .slice none 0 0] : List Value))) (vs := (([.slice A13 y12.length cp14, .slice A16 y15.length cp17] : List Value))) (L' := (([.slice A13 y12.length cp14, .slice A16 y15.length cp17] : List Value))) (by kernel_rfl) ty25 hI (by kernel_rfl) (by kernel_rfl) (by kernel_rfl) (by kernel_rfl) (by kernel_rfl) ?_)
        intro w hI
        refine OpsT.done ?_
        refine Qn.then ?_
        refine CodT.seq ?_
        refine CodT.regionL [0, 1, 2, 3, 4, 5, 6, 7, 8, 9] (by kernel_rfl) ?_
        refine OpsT.cons (Does.yi (Yl.load (d := 34) (T := 25) (v := .agg ((([.slice A13 y12.length cp14, .slice A16 y15.length cp17] : List Value))).toArray) (by kernel_rfl) (ldBN ty25 (l := (([.slice A13 y12.length cp14, .slice A16 y15.length cp17] : List Value))) (o := 0) (cs := (([.slice A13 y12.length cp14, .slice A16 y15.length cp17] : List Value))) (ent_refl _) (by kernel_rfl) (whole _ _ (by kernel_rfl)))) hI ?_)
        refine OpsT.pures (r := [2, 3, 4, 5, 6, 7, 8, 9]) [1] [2, 3, 4, 7, 8, 34, 35] (S' := [(2, .int .i64 a2), (3, .pointer (some ⟨b1, 0, none⟩)), (4, .pointer (some ⟨b2, 0, none⟩)), (7, .bool y4), (8, .pointer (some ⟨b21, 0, none⟩)), (34, .agg ((([.slice A13 y12.length cp14, .slice A16 y15.length cp17] : List Value))).toArray), (35, .pointer (some ⟨b2, 0, none⟩))]) (by kernel_rfl) ?_
        refine OpsT.cons (Does.yi (Yl.load (d := 36) (T := 3) (v := .int .i64 a1.Logic) (by kernel_rfl) (ldB ty3 (l := c_RootEntry a1) (o := 0) (v := .int .i64 a1.Logic) (pick3 _ _ _ _) (by kernel_rfl))) hI ?_)
        have hI := hI.mono (pick2 _ _ _)
        obtain ⟨Z22, hle23, hr24, hI⟩ := ownS_freeze hI
        obtain ⟨⟨y26, y27⟩, hc25, h0⟩ := bindS h0
        try dsimp only at h0
        refine OpsT.cons (Does.call (d := some 37) (n := 24) (vs := [.agg ((([.slice A13 y12.length cp14, .slice A16 y15.length cp17] : List Value))).toArray, .int .i64 a1.Logic]) (by kernel_rfl) en24 (c24 w0 w _ _ hI A13 cp14 y12 hr24 A16 cp17 y15 (hr18.mono hle23) a1.Logic _ hc25) ?_)
        rintro e w ⟨rfl, hI⟩
        refine ⟨_, rfl, ?_⟩
        refine OpsT.pures (r := [7, 8, 9]) [4, 5, 6] [2, 3, 4, 7, 8, 38, 39] (S' := [(2, .int .i64 a2), (3, .pointer (some ⟨b1, 0, none⟩)), (4, .pointer (some ⟨b2, 0, none⟩)), (7, .bool y4), (8, .pointer (some ⟨b21, 0, none⟩)), (38, .agg (c_RootEntry y26).toArray), (39, .bool y27)]) (by kernel_rfl) ?_
        refine OpsT.cons (Does.allocL (d := 9) (T := 47) (c_RootEntry (RootEntry.mk 0 0 0 0)) (by kernel_rfl) ty47 hI (by kernel_rfl) ?_)
        intro b28 w hI
        refine OpsT.cons (Does.storeLit (T := 47) (b := b28) (o := 0) (v := .agg (c_RootEntry y26).toArray) (l := c_RootEntry (RootEntry.mk 0 0 0 0)) (vs := c_RootEntry y26) (L' := c_RootEntry y26) (by kernel_rfl) ty47 hI (by kernel_rfl) (by kernel_rfl) (by kernel_rfl) (by kernel_rfl) (by kernel_rfl) ?_)
        intro w hI
        refine OpsT.pures (r := []) [9] [2, 3, 4, 7, 8, 9, 10] (S' := [(2, .int .i64 a2), (3, .pointer (some ⟨b1, 0, none⟩)), (4, .pointer (some ⟨b2, 0, none⟩)), (7, .bool y4), (8, .pointer (some ⟨b21, 0, none⟩)), (9, .pointer (some ⟨b28, 0, none⟩)), (10, .bool y27)]) (by kernel_rfl) ?_
        refine OpsT.done ?_
        refine Qn.then ?_
        refine CodT.seq ?_
        refine CodT.regionL [0, 1, 2, 3, 4, 5, 6, 7, 8] (by kernel_rfl) ?_
        refine OpsT.cons (Does.yi (Yl.load (d := 41) (T := 25) (v := .agg ((([.slice A_a0_Map a0_Map.length c_a0_Map, .slice A_a0_Gone a0_Gone.length c_a0_Gone] : List Value))).toArray) (by kernel_rfl) (ldBN ty25 (l := (([.slice A_a0_Map a0_Map.length c_a0_Map, .slice A_a0_Gone a0_Gone.length c_a0_Gone] : List Value))) (o := 0) (cs := (([.slice A_a0_Map a0_Map.length c_a0_Map, .slice A_a0_Gone a0_Gone.length c_a0_Gone] : List Value))) (pick4 _ _ _ _ _) (by kernel_rfl) (whole _ _ (by kernel_rfl)))) hI ?_)
        refine OpsT.pures (r := [2, 3, 4, 5, 6, 7, 8]) [1] [2, 4, 7, 8, 9, 10, 41, 42] (S' := [(2, .int .i64 a2), (4, .pointer (some ⟨b2, 0, none⟩)), (7, .bool y4), (8, .pointer (some ⟨b21, 0, none⟩)), (9, .pointer (some ⟨b28, 0, none⟩)), (10, .bool y27), (41, .agg ((([.slice A_a0_Map a0_Map.length c_a0_Map, .slice A_a0_Gone a0_Gone.length c_a0_Gone] : List Value))).toArray), (42, .int .i64 a2)]) (by kernel_rfl) ?_
        obtain ⟨⟨y30, y31⟩, hc29, h0⟩ := bindS h0
        try dsimp only at h0
        refine OpsT.cons (Does.call (d := some 43) (n := 24) (vs := [.agg ((([.slice A_a0_Map a0_Map.length c_a0_Map, .slice A_a0_Gone a0_Gone.length c_a0_Gone] : List Value))).toArray, .int .i64 a2]) (by kernel_rfl) en24 (c24 w0 w _ _ hI A_a0_Map c_a0_Map a0_Map (hr_a0_Map.mono (Hp.le_trans hle20 hle23)) A_a0_Gone c_a0_Gone a0_Gone (hr_a0_Gone.mono (Hp.le_trans hle20 hle23)) a2 _ hc29) ?_)
        rintro e w ⟨rfl, hI⟩
        refine ⟨_, rfl, ?_⟩
        refine OpsT.pures (r := [6, 7, 8]) [3, 4, 5] [2, 4, 7, 8, 9, 10, 44, 45] (S' := [(2, .int .i64 a2), (4, .pointer (some ⟨b2, 0, none⟩)), (7, .bool y4), (8, .pointer (some ⟨b21, 0, none⟩)), (9, .pointer (some ⟨b28, 0, none⟩)), (10, .bool y27), (44, .agg (c_RootEntry y30).toArray), (45, .bool y31)]) (by kernel_rfl) ?_
        refine OpsT.cons (Does.allocL (d := 11) (T := 47) (c_RootEntry (RootEntry.mk 0 0 0 0)) (by kernel_rfl) ty47 hI (by kernel_rfl) ?_)
        intro b32 w hI
        refine OpsT.cons (Does.storeLit (T := 47) (b := b32) (o := 0) (v := .agg (c_RootEntry y30).toArray) (l := c_RootEntry (RootEntry.mk 0 0 0 0)) (vs := c_RootEntry y30) (L' := c_RootEntry y30) (by kernel_rfl) ty47 hI (by kernel_rfl) (by kernel_rfl) (by kernel_rfl) (by kernel_rfl) (by kernel_rfl) ?_)
        intro w hI
        refine OpsT.pures (r := []) [8] [2, 4, 7, 8, 9, 10, 11, 12] (S' := [(2, .int .i64 a2), (4, .pointer (some ⟨b2, 0, none⟩)), (7, .bool y4), (8, .pointer (some ⟨b21, 0, none⟩)), (9, .pointer (some ⟨b28, 0, none⟩)), (10, .bool y27), (11, .pointer (some ⟨b32, 0, none⟩)), (12, .bool y31)]) (by kernel_rfl) ?_
        refine OpsT.done ?_
        refine Qn.then ?_
        refine CodT.seq ?_
        refine CodT.regionL [0, 1, 2, 3, 4, 5, 6, 7, 8] (by kernel_rfl) ?_
        refine OpsT.cons (Does.yi (Yl.load (d := 47) (T := 25) (v := .agg ((([.slice A13 y12.length cp14, .slice A16 y15.length cp17] : List Value))).toArray) (by kernel_rfl) (ldBN ty25 (l := (([.slice A13 y12.length cp14, .slice A16 y15.length cp17] : List Value))) (o := 0) (cs := (([.slice A13 y12.length cp14, .slice A16 y15.length cp17] : List Value))) (pick3 _ _ _ _) (by kernel_rfl) (whole _ _ (by kernel_rfl)))) hI ?_)
        refine OpsT.pures (r := [2, 3, 4, 5, 6, 7, 8]) [1] [2, 4, 7, 9, 10, 11, 12, 47, 48] (S' := [(2, .int .i64 a2), (4, .pointer (some ⟨b2, 0, none⟩)), (7, .bool y4), (9, .pointer (some ⟨b28, 0, none⟩)), (10, .bool y27), (11, .pointer (some ⟨b32, 0, none⟩)), (12, .bool y31), (47, .agg ((([.slice A13 y12.length cp14, .slice A16 y15.length cp17] : List Value))).toArray), (48, .int .i64 a2)]) (by kernel_rfl) ?_
        obtain ⟨⟨y34, y35⟩, hc33, h0⟩ := bindS h0
        try dsimp only at h0
        refine OpsT.cons (Does.call (d := some 49) (n := 24) (vs := [.agg ((([.slice A13 y12.length cp14, .slice A16 y15.length cp17] : List Value))).toArray, .int .i64 a2]) (by kernel_rfl) en24 (c24 w0 w _ _ hI A13 cp14 y12 hr24 A16 cp17 y15 (hr18.mono hle23) a2 _ hc33) ?_)
        rintro e w ⟨rfl, hI⟩
        refine ⟨_, rfl, ?_⟩
        refine OpsT.pures (r := [6, 7, 8]) [3, 4, 5] [2, 4, 7, 9, 10, 11, 12, 50, 51] (S' := [(2, .int .i64 a2), (4, .pointer (some ⟨b2, 0, none⟩)), (7, .bool y4), (9, .pointer (some ⟨b28, 0, none⟩)), (10, .bool y27), (11, .pointer (some ⟨b32, 0, none⟩)), (12, .bool y31), (50, .agg (c_RootEntry y34).toArray), (51, .bool y35)]) (by kernel_rfl) ?_
        refine OpsT.cons (Does.allocL (d := 13) (T := 47) (c_RootEntry (RootEntry.mk 0 0 0 0)) (by kernel_rfl) ty47 hI (by kernel_rfl) ?_)
        intro b36 w hI
        refine OpsT.cons (Does.storeLit (T := 47) (b := b36) (o := 0) (v := .agg (c_RootEntry y34).toArray) (l := c_RootEntry (RootEntry.mk 0 0 0 0)) (vs := c_RootEntry y34) (L' := c_RootEntry y34) (by kernel_rfl) ty47 hI (by kernel_rfl) (by kernel_rfl) (by kernel_rfl) (by kernel_rfl) (by kernel_rfl) ?_)
        intro w hI
        refine OpsT.pures (r := []) [8] [2, 4, 7, 9, 10, 11, 12, 13, 14] (S' := [(2, .int .i64 a2), (4, .pointer (some ⟨b2, 0, none⟩)), (7, .bool y4), (9, .pointer (some ⟨b28, 0, none⟩)), (10, .bool y27), (11, .pointer (some ⟨b32, 0, none⟩)), (12, .bool y31), (13, .pointer (some ⟨b36, 0, none⟩)), (14, .bool y35)]) (by kernel_rfl) ?_
        refine OpsT.done ?_
        refine Qn.then ?_
        refine CodT.seq ?_
        obtain ⟨r1, h1, h0⟩ := bindS h0
        refine CodT.meet (fun a w => ∃ (x37 : Bool), x37 = r1 ∧ Fr 76 [(2, .int .i64 a2), (4, .pointer (some ⟨b2, 0, none⟩)), (7, .bool y4), (11, .pointer (some ⟨b32, 0, none⟩)), (12, .bool y31), (13, .pointer (some ⟨b36, 0, none⟩)), (14, .bool y35), (58, .bool x37)] a ∧ Inv w0 Z22 w (star (pt b36 (.cells (c_RootEntry y34).toArray 47 (0, 0))) (star (pt b32 (.cells (c_RootEntry y30).toArray 47 (0, 0))) (star (pt b2 (.cells (c_RootEntry a1).toArray 47 (0, 0))) A)))) ?_ ?_
        ·
          refine CodT.regionL [0, 1, 2, 3, 4, 5, 6] (by kernel_rfl) ?_
          refine OpsT.pures (r := [3, 4, 5, 6]) [0, 1, 2] [2, 4, 7, 9, 11, 12, 13, 14, 54] (S' := [(2, .int .i64 a2), (4, .pointer (some ⟨b2, 0, none⟩)), (7, .bool y4), (9, .pointer (some ⟨b28, 0, none⟩)), (11, .pointer (some ⟨b32, 0, none⟩)), (12, .bool y31), (13, .pointer (some ⟨b36, 0, none⟩)), (14, .bool y35), (54, .bool (!y27))]) (by kernel_rfl) ?_
          by_cases hb38 : (!y27) = true
          · rw [if_pos hb38] at h1
            refine OpsT.keep [2, 4, 7, 9, 11, 12, 13, 14, 54] (S' := [(2, .int .i64 a2), (4, .pointer (some ⟨b2, 0, none⟩)), (7, .bool y4), (9, .pointer (some ⟨b28, 0, none⟩)), (11, .pointer (some ⟨b32, 0, none⟩)), (12, .bool y31), (13, .pointer (some ⟨b36, 0, none⟩)), (14, .bool y35), (54, .bool true)]) (by simp only [hb38]; kernel_rfl) ?_
            refine OpsT.pures (r := []) [3, 4, 5, 6] [2, 4, 7, 11, 12, 13, 14, 58] (S' := [(2, .int .i64 a2), (4, .pointer (some ⟨b2, 0, none⟩)), (7, .bool y4), (11, .pointer (some ⟨b32, 0, none⟩)), (12, .bool y31), (13, .pointer (some ⟨b36, 0, none⟩)), (14, .bool y35), (58, .bool true)]) (by kernel_rfl) ?_
            refine OpsT.done ?_
            have hI := hI.mono (pick3 _ _ _ _)
            have hI := hI.drop
            have hI := hI.mono (pick3 _ _ _ _)
            have hI := hI.drop
            have hI := hI.mono (pick4 _ _ _ _ _)
            have hI := hI.drop
            have e := someS h1
            subst e
            exact Qn.thenJ fun a ha => ⟨true, rfl, ha.keep [2, 4, 7, 11, 12, 13, 14, 58] (by kernel_rfl), hI⟩
          · rw [if_neg hb38] at h1
            have hb38 : (!y27) = false := by simpa using hb38
            refine OpsT.keep [2, 4, 7, 9, 11, 12, 13, 14, 54] (S' := [(2, .int .i64 a2), (4, .pointer (some ⟨b2, 0, none⟩)), (7, .bool y4), (9, .pointer (some ⟨b28, 0, none⟩)), (11, .pointer (some ⟨b32, 0, none⟩)), (12, .bool y31), (13, .pointer (some ⟨b36, 0, none⟩)), (14, .bool y35), (54, .bool false)]) (by simp only [hb38]; kernel_rfl) ?_
            refine OpsT.cons (Does.yi (Yl.load (d := 55) (T := 47) (v := .agg (c_RootEntry y26).toArray) (by kernel_rfl) (ldBN ty47 (l := c_RootEntry y26) (o := 0) (cs := c_RootEntry y26) (pick3 _ _ _ _) (by kernel_rfl) (whole _ _ (by kernel_rfl)))) hI ?_)
            refine OpsT.cons (Does.yi (Yl.load (d := 56) (T := 47) (v := .agg (c_RootEntry a1).toArray) (by kernel_rfl) (ldBN ty47 (l := c_RootEntry a1) (o := 0) (cs := c_RootEntry a1) (pick5 _ _ _ _ _ _) (by kernel_rfl) (whole _ _ (by kernel_rfl)))) hI ?_)
            refine OpsT.cons (Does.yi (Yl.neqS (d := 57) (T := 47) (xs := ([.int .i64 y26.Logic, .int .i64 y26.Owner, .int .i64 y26.Block, .int .i64 y26.At] : List Value)) (ys := ([.int .i64 a1.Logic, .int .i64 a1.Owner, .int .i64 a1.Block, .int .i64 a1.At] : List Value)) (r := eq_RootEntry y26 a1) (by kernel_rfl) Go.Proofs.Try.underlying47 (by kernel_rfl) (by kernel_rfl) (.cons rfl (part1 (v := .int .i64 y26.Logic) ty3 (by kernel_rfl)) (part1 (v := .int .i64 a1.Logic) ty3 (by kernel_rfl)) (eqI Go.Proofs.Try.underlying3) (.cons rfl (part1 (v := .int .i64 y26.Owner) ty3 (by kernel_rfl)) (part1 (v := .int .i64 a1.Owner) ty3 (by kernel_rfl)) (eqI Go.Proofs.Try.underlying3) (.cons rfl (part1 (v := .int .i64 y26.Block) ty3 (by kernel_rfl)) (part1 (v := .int .i64 a1.Block) ty3 (by kernel_rfl)) (eqI Go.Proofs.Try.underlying3) (.cons rfl (part1 (v := .int .i64 y26.At) ty3 (by kernel_rfl)) (part1 (v := .int .i64 a1.At) ty3 (by kernel_rfl)) (eqI Go.Proofs.Try.underlying3) .nil))))) hI ?_)
            refine OpsT.pures (r := []) [6] [2, 4, 7, 11, 12, 13, 14, 58] (S' := [(2, .int .i64 a2), (4, .pointer (some ⟨b2, 0, none⟩)), (7, .bool y4), (11, .pointer (some ⟨b32, 0, none⟩)), (12, .bool y31), (13, .pointer (some ⟨b36, 0, none⟩)), (14, .bool y35), (58, .bool (!(eq_RootEntry y26 a1)))]) (by kernel_rfl) ?_
            refine OpsT.done ?_
            have hI := hI.mono (pick3 _ _ _ _)
            have hI := hI.drop
            have hI := hI.mono (pick3 _ _ _ _)
            have hI := hI.drop
            have hI := hI.mono (pick4 _ _ _ _ _)
            have hI := hI.drop
            have e := someS h1
            subst e
            exact Qn.thenJ fun a ha => ⟨!(eq_RootEntry y26 a1), rfl, ha.keep [2, 4, 7, 11, 12, 13, 14, 58] (by kernel_rfl), hI⟩
        ·
          rintro a w ⟨x37, rfl, ha, hI⟩
          try dsimp only at h0
          refine CodT.of ?_ ha
          by_cases hb39 : x37 = true
          · rw [if_pos hb39] at h0
            refine CodT.yes' (b := x37) (by kernel_rfl) hb39 ?_
            refine CodT.seq ?_
            refine CodT.regionL [0] (by kernel_rfl) ?_
            refine OpsT.pures (r := []) [0] [6] (S' := [(6, .bool false)]) (by kernel_rfl) ?_
            refine OpsT.done ?_
            refine Qn.then ?_
            refine CodT.ret ?_
            refine Qn.ret_then ?_
            have hI := hI.drop
            have hI := hI.drop
            have hI := hI.drop
            have e := someS h0
            subst e
            refine Qn.keep [6] (S' := [(6, .bool false)]) (by kernel_rfl) ?_
            exact post_ret (v := .bool false) (fun a ha => RunRes.run (vs := [.bool false]) (.tmp (t := 6) (by kernel_rfl) .nil) ha (by kernel_rfl)) ⟨rfl, hI.weaken (Hp.le_trans hle20 hle23)⟩
          · rw [if_neg hb39] at h0
            refine CodT.no' (b := x37) (by kernel_rfl) (by simpa using hb39) ?_
            refine CodT.skip ?_
            refine Qn.then ?_
            obtain ⟨r1, h1, h0⟩ := bindS h0
            refine CodT.meet (fun a w => ∃ (x40 : Bool), x40 = r1 ∧ Fr 76 [(6, .bool x40)] a ∧ Inv w0 Z22 w A) ?_ ?_
            ·
              refine CodT.regionL [0, 1, 2, 3, 4, 5, 6, 7, 8, 9, 10, 11, 12, 13, 14, 15, 16, 17] (by kernel_rfl) ?_
              refine OpsT.pures (r := [2, 3, 4, 5, 6, 7, 8, 9, 10, 11, 12, 13, 14, 15, 16, 17]) [0, 1] [2, 4, 11, 12, 13, 14, 60] (S' := [(2, .int .i64 a2), (4, .pointer (some ⟨b2, 0, none⟩)), (11, .pointer (some ⟨b32, 0, none⟩)), (12, .bool y31), (13, .pointer (some ⟨b36, 0, none⟩)), (14, .bool y35), (60, .bool y4)]) (by kernel_rfl) ?_
              by_cases hb41 : y4 = true
              · rw [if_pos hb41] at h1
                refine OpsT.keep [2, 4, 11, 12, 13, 14, 60] (S' := [(2, .int .i64 a2), (4, .pointer (some ⟨b2, 0, none⟩)), (11, .pointer (some ⟨b32, 0, none⟩)), (12, .bool y31), (13, .pointer (some ⟨b36, 0, none⟩)), (14, .bool y35), (60, .bool true)]) (by simp only [hb41]; kernel_rfl) ?_
                refine OpsT.pures (r := [4, 5, 6, 7, 8, 9, 10, 11, 12, 13, 14, 15, 16, 17]) [2, 3] [11, 12, 13, 14, 60, 61, 62] (S' := [(11, .pointer (some ⟨b32, 0, none⟩)), (12, .bool y31), (13, .pointer (some ⟨b36, 0, none⟩)), (14, .bool y35), (60, .bool true), (61, .int .i64 a2), (62, .pointer (some ⟨b2, 0, none⟩))]) (by kernel_rfl) ?_
                refine OpsT.cons (Does.yi (Yl.load (d := 63) (T := 3) (v := .int .i64 a1.Logic) (by kernel_rfl) (ldB ty3 (l := c_RootEntry a1) (o := 0) (v := .int .i64 a1.Logic) (pick3 _ _ _ _) (by kernel_rfl))) hI ?_)
                refine OpsT.pures (r := [7, 8, 9, 10, 11, 12, 13, 14, 15, 16, 17]) [5, 6] [11, 12, 13, 14, 60, 65] (S' := [(11, .pointer (some ⟨b32, 0, none⟩)), (12, .bool y31), (13, .pointer (some ⟨b36, 0, none⟩)), (14, .bool y35), (60, .bool true), (65, .bool (a2 == a1.Logic))]) (by kernel_rfl) ?_
                by_cases hb42 : (a2 == a1.Logic) = true
                · rw [if_pos hb42] at h1
                  refine OpsT.keep [11, 12, 13, 14, 60, 65] (S' := [(11, .pointer (some ⟨b32, 0, none⟩)), (12, .bool y31), (13, .pointer (some ⟨b36, 0, none⟩)), (14, .bool y35), (60, .bool true), (65, .bool true)]) (by simp only [hb42]; kernel_rfl) ?_
                  refine OpsT.pures (r := []) [7, 8, 9, 10, 11, 12, 13, 14, 15, 16, 17] [6] (S' := [(6, .bool true)]) (by kernel_rfl) ?_
                  refine OpsT.done ?_
                  have hI := hI.drop
                  have hI := hI.drop
                  have hI := hI.drop
                  have e := someS h1
                  subst e
                  exact Qn.thenJ fun a ha => ⟨true, rfl, ha.keep [6] (by kernel_rfl), hI⟩
                · rw [if_neg hb42] at h1
                  have hb42 : (a2 == a1.Logic) = false := by simpa using hb42
                  refine OpsT.keep [11, 12, 13, 14, 60, 65] (S' := [(11, .pointer (some ⟨b32, 0, none⟩)), (12, .bool y31), (13, .pointer (some ⟨b36, 0, none⟩)), (14, .bool y35), (60, .bool true), (65, .bool false)]) (by simp only [hb42]; kernel_rfl) ?_
                  refine OpsT.cons (Does.yi (Yl.load (d := 66) (T := 47) (v := .agg (c_RootEntry y30).toArray) (by kernel_rfl) (ldBN ty47 (l := c_RootEntry y30) (o := 0) (cs := c_RootEntry y30) (pick2 _ _ _) (by kernel_rfl) (whole _ _ (by kernel_rfl)))) hI ?_)
                  refine OpsT.cons (Does.yi (Yl.load (d := 67) (T := 47) (v := .agg (c_RootEntry y34).toArray) (by kernel_rfl) (ldBN ty47 (l := c_RootEntry y34) (o := 0) (cs := c_RootEntry y34) (ent_refl _) (by kernel_rfl) (whole _ _ (by kernel_rfl)))) hI ?_)
                  refine OpsT.cons (Does.yi (Yl.eqlS (d := 68) (T := 47) (xs := ([.int .i64 y30.Logic, .int .i64 y30.Owner, .int .i64 y30.Block, .int .i64 y30.At] : List Value)) (ys := ([.int .i64 y34.Logic, .int .i64 y34.Owner, .int .i64 y34.Block, .int .i64 y34.At] : List Value)) (r := eq_RootEntry y30 y34) (by kernel_rfl) Go.Proofs.Try.underlying47 (by kernel_rfl) (by kernel_rfl) (.cons rfl (part1 (v := .int .i64 y30.Logic) ty3 (by kernel_rfl)) (part1 (v := .int .i64 y34.Logic) ty3 (by kernel_rfl)) (eqI Go.Proofs.Try.underlying3) (.cons rfl (part1 (v := .int .i64 y30.Owner) ty3 (by kernel_rfl)) (part1 (v := .int .i64 y34.Owner) ty3 (by kernel_rfl)) (eqI Go.Proofs.Try.underlying3) (.cons rfl (part1 (v := .int .i64 y30.Block) ty3 (by kernel_rfl)) (part1 (v := .int .i64 y34.Block) ty3 (by kernel_rfl)) (eqI Go.Proofs.Try.underlying3) (.cons rfl (part1 (v := .int .i64 y30.At) ty3 (by kernel_rfl)) (part1 (v := .int .i64 y34.At) ty3 (by kernel_rfl)) (eqI Go.Proofs.Try.underlying3) .nil))))) hI ?_)
                  refine OpsT.pures (r := [11, 12, 13, 14, 15, 16, 17]) [10] [12, 14, 60, 65, 69] (S' := [(12, .bool y31), (14, .bool y35), (60, .bool true), (65, .bool false), (69, .bool (eq_RootEntry y30 y34))]) (by kernel_rfl) ?_
                  by_cases hb43 : (eq_RootEntry y30 y34) = true
                  · rw [if_pos hb43] at h1
                    refine OpsT.keep [12, 14, 60, 65, 69] (S' := [(12, .bool y31), (14, .bool y35), (60, .bool true), (65, .bool false), (69, .bool true)]) (by simp only [hb43]; kernel_rfl) ?_
                    refine OpsT.pures (r := []) [11, 12, 13, 14, 15, 16, 17] [6] (S' := [(6, .bool (y31 == y35))]) (by kernel_rfl) ?_
                    refine OpsT.done ?_
                    have hI := hI.drop
                    have hI := hI.drop
                    have hI := hI.drop
                    have e := someS h1
                    subst e
                    exact Qn.thenJ fun a ha => ⟨y31 == y35, rfl, ha.keep [6] (by kernel_rfl), hI⟩
                  · rw [if_neg hb43] at h1
                    have hb43 : (eq_RootEntry y30 y34) = false := by simpa using hb43
                    refine OpsT.keep [12, 14, 60, 65, 69] (S' := [(12, .bool y31), (14, .bool y35), (60, .bool true), (65, .bool false), (69, .bool false)]) (by simp only [hb43]; kernel_rfl) ?_
                    refine OpsT.pures (r := []) [11, 12, 13, 14, 15, 16, 17] [6] (S' := [(6, .bool false)]) (by kernel_rfl) ?_
                    refine OpsT.done ?_
                    have hI := hI.drop
                    have hI := hI.drop
                    have hI := hI.drop
                    have e := someS h1
                    subst e
                    exact Qn.thenJ fun a ha => ⟨false, rfl, ha.keep [6] (by kernel_rfl), hI⟩
              · rw [if_neg hb41] at h1
                have hb41 : y4 = false := by simpa using hb41
                refine OpsT.keep [2, 4, 11, 12, 13, 14, 60] (S' := [(2, .int .i64 a2), (4, .pointer (some ⟨b2, 0, none⟩)), (11, .pointer (some ⟨b32, 0, none⟩)), (12, .bool y31), (13, .pointer (some ⟨b36, 0, none⟩)), (14, .bool y35), (60, .bool false)]) (by simp only [hb41]; kernel_rfl) ?_
                refine OpsT.pures (r := []) [2, 3, 4, 5, 6, 7, 8, 9, 10, 11, 12, 13, 14, 15, 16, 17] [6] (S' := [(6, .bool false)]) (by kernel_rfl) ?_
                refine OpsT.done ?_
                have hI := hI.drop
                have hI := hI.drop
                have hI := hI.drop
                have e := someS h1
                subst e
                exact Qn.thenJ fun a ha => ⟨false, rfl, ha.keep [6] (by kernel_rfl), hI⟩
            ·
              rintro a w ⟨x40, rfl, ha, hI⟩
              try dsimp only at h0
              refine CodT.of ?_ ha
              refine CodT.ret ?_
              have e := someS h0
              subst e
              refine Qn.keep [6] (S' := [(6, .bool x40)]) (by kernel_rfl) ?_
              exact post_ret (v := .bool x40) (fun a ha => RunRes.run (vs := [.bool x40]) (.tmp (t := 6) (by kernel_rfl) .nil) ha (by kernel_rfl)) ⟨rfl, hI.weaken (Hp.le_trans hle20 hle23)⟩
end Go.Cen
