/- The walk of the law ChainParts, printed by a program of ours. -/
import Derived.Test.YthdoklobbcedcacWx4
set_option linter.unusedVariables false
set_option linter.unusedSimpArgs false
namespace Go.Cen
set_option maxRecDepth 100000 in
set_option maxHeartbeats 4000000 in
/-- cenotaph/cenotaphlaw06.ChainParts -/
theorem c4 (w0 w : World) (Z : Hp) (A : HP) (hI : Inv w0 Z w A) (a0 : (List Int)) (hl_a0 : a0.length = 32) (A_a1 : Option Addr) (c_a1 : Nat) (a1 : (List ApiEvent)) (hr_a1 : RdS Z c_ApiEvent 37 A_a1 c_a1 a1) (A_a2 : Option Addr) (c_a2 : Nat) (a2 : (List ApiEvent)) (hr_a2 : RdS Z c_ApiEvent 37 A_a2 c_a2 a2) (r : Bool) (h0 : law06_ChainParts a0 a1 a2 = some r) :
    Calls prog 4 #[.agg (cA (Value.int .u8) a0).toArray, .slice A_a1 a1.length c_a1, .slice A_a2 a2.length c_a2] w (fun e w' => e = .returned (.bool r) ∧ Inv w0 Z w' A) := by
  have e4 := calls_intro (R := (fun e w' => e = .returned (.bool r) ∧ Inv w0 Z w' A)) (w := w) (args := [.agg (cA (Value.int .u8) a0).toArray, .slice A_a1 a1.length c_a1, .slice A_a2 a2.length c_a2]) (fn := Go.Proofs.Try.f4) 105 Go.Proofs.Try.func4 (by rfl) Go.Proofs.Try.ntmps4 (by kernel_rfl)
  refine e4 ?_
  clear e4
  unfold law06_ChainParts at h0
  refine CodT.seq ?_
  refine CodT.regionL [0, 1] (by kernel_rfl) ?_
  refine OpsT.cons (Does.boxL (d := 3) (T := 29) (v := .agg (cA (Value.int .u8) a0).toArray) (cA (Value.int .u8) a0) (by kernel_rfl) hI (by kernel_rfl) ?_)
  intro b1 w hI
  refine OpsT.pures (r := []) [1] [1, 2, 3] (S' := [(1, .slice A_a1 a1.length c_a1), (2, .slice A_a2 a2.length c_a2), (3, .pointer (some ⟨b1, 0, none⟩))]) (by kernel_rfl) ?_
  refine OpsT.done ?_
  refine Qn.then ?_
  refine CodT.seq ?_
  refine CodT.regionL [0, 1] (by kernel_rfl) ?_
  obtain ⟨y3, hc2, h0⟩ := bindS h0
  try dsimp only at h0
  refine OpsT.cons (Does.call (d := some 19) (n := 8) (vs := []) (by kernel_rfl) en8 (c8 w0 w _ _ hI _ hc2) ?_)
  rintro e w ⟨rfl, hI⟩
  refine ⟨_, rfl, ?_⟩
  refine OpsT.pures (r := []) [1] [1, 2, 3, 7] (S' := [(1, .slice A_a1 a1.length c_a1), (2, .slice A_a2 a2.length c_a2), (3, .pointer (some ⟨b1, 0, none⟩)), (7, .bool y3)]) (by kernel_rfl) ?_
  refine OpsT.done ?_
  refine Qn.then ?_
  refine CodT.seq ?_
  refine CodT.seq ?_
  refine CodT.regionL [0, 1] (by kernel_rfl) ?_
  refine OpsT.pures (r := []) [0, 1] [1, 2, 3, 7, 21] (S' := [(1, .slice A_a1 a1.length c_a1), (2, .slice A_a2 a2.length c_a2), (3, .pointer (some ⟨b1, 0, none⟩)), (7, .bool y3), (21, .bool (!y3))]) (by kernel_rfl) ?_
  refine OpsT.done ?_
  refine Qn.then ?_
  by_cases hb4 : (!y3) = true
  · rw [if_pos hb4] at h0
    refine CodT.yes' (b := !y3) (by kernel_rfl) hb4 ?_
    refine CodT.seq ?_
    refine CodT.regionL [0] (by kernel_rfl) ?_
    refine OpsT.pures (r := []) [0] [6] (S' := [(6, .bool false)]) (by kernel_rfl) ?_
    refine OpsT.done ?_
    refine Qn.then ?_
    refine CodT.ret ?_
    refine Qn.ret_then ?_
    have hI := hI.drop
    have e := someS h0
    subst e
    refine Qn.keep [6] (S' := [(6, .bool false)]) (by kernel_rfl) ?_
    exact post_ret (v := .bool false) (fun a ha => RunRes.run (vs := [.bool false]) (.tmp (t := 6) (by kernel_rfl) .nil) ha (by kernel_rfl)) ⟨rfl, hI⟩
  · rw [if_neg hb4] at h0
    refine CodT.no' (b := !y3) (by kernel_rfl) (by simpa using hb4) ?_
    refine CodT.skip ?_
    refine Qn.then ?_
    obtain ⟨r1, h1, h0⟩ := bindS h0
    refine CodT.meet (fun a w => ∃ (x5 : Bool), x5 = r1 ∧ Fr 105 [(1, .slice A_a1 a1.length c_a1), (2, .slice A_a2 a2.length c_a2), (3, .pointer (some ⟨b1, 0, none⟩)), (7, .bool y3), (8, .bool x5)] a ∧ Inv w0 Z w (star (pt b1 (.cells (cA (Value.int .u8) a0).toArray 29 (0, 0))) A)) ?_ ?_
    ·
      refine CodT.regionL [0, 1, 2, 3, 4, 5, 6] (by kernel_rfl) ?_
      refine OpsT.pures (r := [1, 2, 3, 4, 5, 6]) [0] [1, 2, 3, 7, 22] (S' := [(1, .slice A_a1 a1.length c_a1), (2, .slice A_a2 a2.length c_a2), (3, .pointer (some ⟨b1, 0, none⟩)), (7, .bool y3), (22, .slice A_a1 a1.length c_a1)]) (by kernel_rfl) ?_
      obtain ⟨y7, hc6, h1⟩ := bindS h1
      try dsimp only at h1
      refine OpsT.cons (Does.call (d := some 23) (n := 9) (vs := [.slice A_a1 a1.length c_a1]) (by kernel_rfl) en9 (c9 w0 w _ _ hI A_a1 c_a1 a1 hr_a1 _ hc6) ?_)
      rintro e w ⟨rfl, hI⟩
      refine ⟨_, rfl, ?_⟩
      refine OpsT.pures (r := [3, 4, 5, 6]) [2] [1, 2, 3, 7, 24] (S' := [(1, .slice A_a1 a1.length c_a1), (2, .slice A_a2 a2.length c_a2), (3, .pointer (some ⟨b1, 0, none⟩)), (7, .bool y3), (24, .bool y7)]) (by kernel_rfl) ?_
      by_cases hb8 : y7 = true
      · rw [if_pos hb8] at h1
        refine OpsT.keep [1, 2, 3, 7, 24] (S' := [(1, .slice A_a1 a1.length c_a1), (2, .slice A_a2 a2.length c_a2), (3, .pointer (some ⟨b1, 0, none⟩)), (7, .bool y3), (24, .bool true)]) (by simp only [hb8]; kernel_rfl) ?_
        refine OpsT.pures (r := [4, 5, 6]) [3] [1, 2, 3, 7, 24, 25] (S' := [(1, .slice A_a1 a1.length c_a1), (2, .slice A_a2 a2.length c_a2), (3, .pointer (some ⟨b1, 0, none⟩)), (7, .bool y3), (24, .bool true), (25, .slice A_a2 a2.length c_a2)]) (by kernel_rfl) ?_
        obtain ⟨y10, hc9, h1⟩ := bindS h1
        try dsimp only at h1
        refine OpsT.cons (Does.call (d := some 26) (n := 9) (vs := [.slice A_a2 a2.length c_a2]) (by kernel_rfl) en9 (c9 w0 w _ _ hI A_a2 c_a2 a2 hr_a2 _ hc9) ?_)
        rintro e w ⟨rfl, hI⟩
        refine ⟨_, rfl, ?_⟩
        refine OpsT.pures (r := []) [5, 6] [1, 2, 3, 7, 8] (S' := [(1, .slice A_a1 a1.length c_a1), (2, .slice A_a2 a2.length c_a2), (3, .pointer (some ⟨b1, 0, none⟩)), (7, .bool y3), (8, .bool y10)]) (by kernel_rfl) ?_
        refine OpsT.done ?_
        have e := someS h1
        subst e
        exact Qn.thenJ fun a ha => ⟨y10, rfl, ha.keep [1, 2, 3, 7, 8] (by kernel_rfl), hI⟩
      · rw [if_neg hb8] at h1
        have hb8 : y7 = false := by simpa using hb8
        refine OpsT.keep [1, 2, 3, 7, 24] (S' := [(1, .slice A_a1 a1.length c_a1), (2, .slice A_a2 a2.length c_a2), (3, .pointer (some ⟨b1, 0, none⟩)), (7, .bool y3), (24, .bool false)]) (by simp only [hb8]; kernel_rfl) ?_
        refine OpsT.pures (r := []) [3, 4, 5, 6] [1, 2, 3, 7, 8] (S' := [(1, .slice A_a1 a1.length c_a1), (2, .slice A_a2 a2.length c_a2), (3, .pointer (some ⟨b1, 0, none⟩)), (7, .bool y3), (8, .bool false)]) (by kernel_rfl) ?_
        refine OpsT.done ?_
        have e := someS h1
        subst e
        exact Qn.thenJ fun a ha => ⟨false, rfl, ha.keep [1, 2, 3, 7, 8] (by kernel_rfl), hI⟩
    ·
      rintro a w ⟨x5, rfl, ha, hI⟩
      try dsimp only at h0
      refine CodT.of ?_ ha
      refine CodT.seq ?_
      refine CodT.seq ?_
      refine CodT.regionL [0, 1] (by kernel_rfl) ?_
      refine OpsT.pures (r := []) [0, 1] [1, 2, 3, 7, 29] (S' := [(1, .slice A_a1 a1.length c_a1), (2, .slice A_a2 a2.length c_a2), (3, .pointer (some ⟨b1, 0, none⟩)), (7, .bool y3), (29, .bool (!x5))]) (by kernel_rfl) ?_
      refine OpsT.done ?_
      refine Qn.then ?_
      by_cases hb11 : (!x5) = true
      · rw [if_pos hb11] at h0
        refine CodT.yes' (b := !x5) (by kernel_rfl) hb11 ?_
        refine CodT.seq ?_
        refine CodT.regionL [0, 1] (by kernel_rfl) ?_
        refine OpsT.pures (r := []) [0, 1] [6] (S' := [(6, .bool y3)]) (by kernel_rfl) ?_
        refine OpsT.done ?_
        refine Qn.then ?_
        refine CodT.ret ?_
        refine Qn.ret_then ?_
        have hI := hI.drop
        have e := someS h0
        subst e
        refine Qn.keep [6] (S' := [(6, .bool y3)]) (by kernel_rfl) ?_
        exact post_ret (v := .bool y3) (fun a ha => RunRes.run (vs := [.bool y3]) (.tmp (t := 6) (by kernel_rfl) .nil) ha (by kernel_rfl)) ⟨rfl, hI⟩
      · rw [if_neg hb11] at h0
        refine CodT.no' (b := !x5) (by kernel_rfl) (by simpa using hb11) ?_
        refine CodT.skip ?_
        refine Qn.then ?_
        refine CodT.seq ?_
        refine CodT.regionL [0] (by kernel_rfl) ?_
        refine OpsT.pures (r := []) [0] [1, 2, 3, 7, 9] (S' := [(1, .slice A_a1 a1.length c_a1), (2, .slice A_a2 a2.length c_a2), (3, .pointer (some ⟨b1, 0, none⟩)), (7, .bool y3), (9, .slice none 0 0)]) (by kernel_rfl) ?_
        refine OpsT.done ?_
        refine Qn.then ?_
        refine CodT.seq ?_
        refine CodT.regionL [0, 1, 2, 3] (by kernel_rfl) ?_
        refine OpsT.pures (r := [2, 3]) [0, 1] [1, 2, 3, 7, 31, 32] (S' := [(1, .slice A_a1 a1.length c_a1), (2, .slice A_a2 a2.length c_a2), (3, .pointer (some ⟨b1, 0, none⟩)), (7, .bool y3), (31, .slice none 0 0), (32, .slice A_a1 a1.length c_a1)]) (by kernel_rfl) ?_
        have hI := ownS_nil (α := ApiEvent) hI 42 c_ApiEvent 37
        obtain ⟨hg12, h0⟩ := guardS h0
        refine OpsT.cons (Does.append (d := 33) (t := 22) (tx := 22) (ty := 22) (ys := ([] : List ApiEvent)) (zs := a1) (x := .slice A_a1 a1.length c_a1) (by kernel_rfl) Go.Proofs.Try.underlying22 ty42 (by kernel_rfl) hI (src_rd Go.Proofs.Try.underlying22 hI hr_a1 (one_flat _ one_ApiEvent)) hr_a1.2.2.1 (by unfold LIM at hg12; omega) hg12 ?_)
        intro A13 cp14 w hI
        refine OpsT.pures (r := []) [3] [1, 2, 3, 7, 9] (S' := [(1, .slice A_a1 a1.length c_a1), (2, .slice A_a2 a2.length c_a2), (3, .pointer (some ⟨b1, 0, none⟩)), (7, .bool y3), (9, .slice A13 ((([] : List ApiEvent) ++ a1).length) cp14)]) (by kernel_rfl) ?_
        refine OpsT.done ?_
        refine Qn.then ?_
        refine CodT.seq ?_
        refine CodT.regionL [0, 1, 2, 3] (by kernel_rfl) ?_
        refine OpsT.pures (r := [2, 3]) [0, 1] [1, 2, 3, 7, 34, 35] (S' := [(1, .slice A_a1 a1.length c_a1), (2, .slice A_a2 a2.length c_a2), (3, .pointer (some ⟨b1, 0, none⟩)), (7, .bool y3), (34, .slice A13 ((([] : List ApiEvent) ++ a1).length) cp14), (35, .slice A_a2 a2.length c_a2)]) (by kernel_rfl) ?_
        obtain ⟨hg15, h0⟩ := guardS h0
        refine OpsT.cons (Does.append (d := 36) (t := 22) (tx := 22) (ty := 22) (ys := ([] : List ApiEvent) ++ a1) (zs := a2) (x := .slice A_a2 a2.length c_a2) (by kernel_rfl) Go.Proofs.Try.underlying22 ty42 (by kernel_rfl) hI (src_rd Go.Proofs.Try.underlying22 hI hr_a2 (one_flat _ one_ApiEvent)) hr_a2.2.2.1 (by unfold LIM at hg15; omega) hg15 ?_)
        intro A16 cp17 w hI
        refine OpsT.pures (r := []) [3] [1, 2, 3, 7, 9] (S' := [(1, .slice A_a1 a1.length c_a1), (2, .slice A_a2 a2.length c_a2), (3, .pointer (some ⟨b1, 0, none⟩)), (7, .bool y3), (9, .slice A16 (((([] : List ApiEvent) ++ a1) ++ a2).length) cp17)]) (by kernel_rfl) ?_
        refine OpsT.done ?_
        refine Qn.then ?_
        refine CodT.seq ?_
        refine CodT.regionL [0, 1, 2, 3, 4, 5, 6, 7, 8] (by kernel_rfl) ?_
        refine OpsT.cons (Does.yi (Yl.load (d := 38) (T := 29) (v := .agg (cA (Value.int .u8) a0).toArray) (by kernel_rfl) (ldBN ty29 (l := cA (Value.int .u8) a0) (o := 0) (cs := cA (Value.int .u8) a0) (pick2 _ _ _) ((cA_length _ _).trans hl_a0) (whole _ _ ((cA_length _ _).trans hl_a0)))) hI ?_)
        refine OpsT.pures (r := [2, 3, 4, 5, 6, 7, 8]) [1] [1, 2, 3, 7, 9, 38, 39] (S' := [(1, .slice A_a1 a1.length c_a1), (2, .slice A_a2 a2.length c_a2), (3, .pointer (some ⟨b1, 0, none⟩)), (7, .bool y3), (9, .slice A16 (((([] : List ApiEvent) ++ a1) ++ a2).length) cp17), (38, .agg (cA (Value.int .u8) a0).toArray), (39, .slice A_a1 a1.length c_a1)]) (by kernel_rfl) ?_
        obtain ⟨⟨y19, y21⟩, hc18, h0⟩ := bindS h0
        try dsimp only at h0
        refine OpsT.cons (Does.call (d := some 40) (n := 12) (vs := [.agg (cA (Value.int .u8) a0).toArray, .slice A_a1 a1.length c_a1]) (by kernel_rfl) en12 (c12 w0 w _ _ hI a0 hl_a0 A_a1 c_a1 a1 hr_a1 _ hc18) ?_)
        rintro e w ⟨rfl, hl20, hI⟩
        refine ⟨_, rfl, ?_⟩
        refine OpsT.pures (r := [6, 7, 8]) [3, 4, 5] [1, 2, 3, 7, 9, 41, 42] (S' := [(1, .slice A_a1 a1.length c_a1), (2, .slice A_a2 a2.length c_a2), (3, .pointer (some ⟨b1, 0, none⟩)), (7, .bool y3), (9, .slice A16 (((([] : List ApiEvent) ++ a1) ++ a2).length) cp17), (41, .agg (cA (Value.int .u8) y19).toArray), (42, .bool y21)]) (by kernel_rfl) ?_
        refine OpsT.cons (Does.allocL (d := 10) (T := 29) (cA (Value.int .u8) (List.replicate 32 (0 : Int))) (by kernel_rfl) ty29 hI (by kernel_rfl) ?_)
        intro b22 w hI
        refine OpsT.cons (Does.storeAll (T := 29) (b := b22) (n := 32) (xs := (List.replicate 32 (0 : Int))) (ys := y19) (by kernel_rfl) ty29 hI (fun _ => rfl) (by kernel_rfl) hl20 ?_)
        intro w hI
        refine OpsT.pures (r := []) [8] [1, 2, 3, 7, 9, 10, 11] (S' := [(1, .slice A_a1 a1.length c_a1), (2, .slice A_a2 a2.length c_a2), (3, .pointer (some ⟨b1, 0, none⟩)), (7, .bool y3), (9, .slice A16 (((([] : List ApiEvent) ++ a1) ++ a2).length) cp17), (10, .pointer (some ⟨b22, 0, none⟩)), (11, .bool y21)]) (by kernel_rfl) ?_
        refine OpsT.done ?_
        refine Qn.then ?_
        refine CodT.seq ?_
        refine CodT.regionL [0, 1, 2, 3, 4, 5, 6, 7, 8] (by kernel_rfl) ?_
        refine OpsT.cons (Does.yi (Yl.load (d := 44) (T := 29) (v := .agg (cA (Value.int .u8) y19).toArray) (by kernel_rfl) (ldBN ty29 (l := cA (Value.int .u8) y19) (o := 0) (cs := cA (Value.int .u8) y19) (ent_refl _) ((cA_length _ _).trans hl20) (whole _ _ ((cA_length _ _).trans hl20)))) hI ?_)
        refine OpsT.pures (r := [2, 3, 4, 5, 6, 7, 8]) [1] [1, 3, 7, 9, 11, 44, 45] (S' := [(1, .slice A_a1 a1.length c_a1), (3, .pointer (some ⟨b1, 0, none⟩)), (7, .bool y3), (9, .slice A16 (((([] : List ApiEvent) ++ a1) ++ a2).length) cp17), (11, .bool y21), (44, .agg (cA (Value.int .u8) y19).toArray), (45, .slice A_a2 a2.length c_a2)]) (by kernel_rfl) ?_
        obtain ⟨⟨y24, y26⟩, hc23, h0⟩ := bindS h0
        try dsimp only at h0
        refine OpsT.cons (Does.call (d := some 46) (n := 12) (vs := [.agg (cA (Value.int .u8) y19).toArray, .slice A_a2 a2.length c_a2]) (by kernel_rfl) en12 (c12 w0 w _ _ hI y19 hl20 A_a2 c_a2 a2 hr_a2 _ hc23) ?_)
        rintro e w ⟨rfl, hl25, hI⟩
        refine ⟨_, rfl, ?_⟩
        refine OpsT.pures (r := [6, 7, 8]) [3, 4, 5] [1, 3, 7, 9, 11, 47, 48] (S' := [(1, .slice A_a1 a1.length c_a1), (3, .pointer (some ⟨b1, 0, none⟩)), (7, .bool y3), (9, .slice A16 (((([] : List ApiEvent) ++ a1) ++ a2).length) cp17), (11, .bool y21), (47, .agg (cA (Value.int .u8) y24).toArray), (48, .bool y26)]) (by kernel_rfl) ?_
        refine OpsT.cons (Does.allocL (d := 12) (T := 29) (cA (Value.int .u8) (List.replicate 32 (0 : Int))) (by kernel_rfl) ty29 hI (by kernel_rfl) ?_)
        intro b27 w hI
        refine OpsT.cons (Does.storeAll (T := 29) (b := b27) (n := 32) (xs := (List.replicate 32 (0 : Int))) (ys := y24) (by kernel_rfl) ty29 hI (fun _ => rfl) (by kernel_rfl) hl25 ?_)
        intro w hI
        refine OpsT.pures (r := []) [8] [1, 3, 7, 9, 11, 12, 13] (S' := [(1, .slice A_a1 a1.length c_a1), (3, .pointer (some ⟨b1, 0, none⟩)), (7, .bool y3), (9, .slice A16 (((([] : List ApiEvent) ++ a1) ++ a2).length) cp17), (11, .bool y21), (12, .pointer (some ⟨b27, 0, none⟩)), (13, .bool y26)]) (by kernel_rfl) ?_
        refine OpsT.done ?_
        refine Qn.then ?_
        refine CodT.seq ?_
        refine CodT.regionL [0, 1, 2, 3, 4, 5, 6, 7, 8] (by kernel_rfl) ?_
        refine OpsT.cons (Does.yi (Yl.load (d := 50) (T := 29) (v := .agg (cA (Value.int .u8) a0).toArray) (by kernel_rfl) (ldBN ty29 (l := cA (Value.int .u8) a0) (o := 0) (cs := cA (Value.int .u8) a0) (pick4 _ _ _ _ _) ((cA_length _ _).trans hl_a0) (whole _ _ ((cA_length _ _).trans hl_a0)))) hI ?_)
        refine OpsT.pures (r := [2, 3, 4, 5, 6, 7, 8]) [1] [1, 7, 9, 11, 12, 13, 50, 51] (S' := [(1, .slice A_a1 a1.length c_a1), (7, .bool y3), (9, .slice A16 (((([] : List ApiEvent) ++ a1) ++ a2).length) cp17), (11, .bool y21), (12, .pointer (some ⟨b27, 0, none⟩)), (13, .bool y26), (50, .agg (cA (Value.int .u8) a0).toArray), (51, .slice A16 (((([] : List ApiEvent) ++ a1) ++ a2).length) cp17)]) (by kernel_rfl) ?_
        have hI := hI.mono (pick3 _ _ _ _)
        obtain ⟨Z28, hle29, hr30, hI⟩ := ownS_freeze hI
        obtain ⟨⟨y32, y34⟩, hc31, h0⟩ := bindS h0
        try dsimp only at h0
        refine OpsT.cons (Does.call (d := some 52) (n := 12) (vs := [.agg (cA (Value.int .u8) a0).toArray, .slice A16 (((([] : List ApiEvent) ++ a1) ++ a2).length) cp17]) (by kernel_rfl) en12 (c12 w0 w _ _ hI a0 hl_a0 A16 cp17 ((([] : List ApiEvent) ++ a1) ++ a2) hr30 _ hc31) ?_)
        rintro e w ⟨rfl, hl33, hI⟩
        refine ⟨_, rfl, ?_⟩
        refine OpsT.pures (r := [6, 7, 8]) [3, 4, 5] [1, 7, 9, 11, 12, 13, 53, 54] (S' := [(1, .slice A_a1 a1.length c_a1), (7, .bool y3), (9, .slice A16 (((([] : List ApiEvent) ++ a1) ++ a2).length) cp17), (11, .bool y21), (12, .pointer (some ⟨b27, 0, none⟩)), (13, .bool y26), (53, .agg (cA (Value.int .u8) y32).toArray), (54, .bool y34)]) (by kernel_rfl) ?_
        refine OpsT.cons (Does.allocL (d := 14) (T := 29) (cA (Value.int .u8) (List.replicate 32 (0 : Int))) (by kernel_rfl) ty29 hI (by kernel_rfl) ?_)
        intro b35 w hI
        refine OpsT.cons (Does.storeAll (T := 29) (b := b35) (n := 32) (xs := (List.replicate 32 (0 : Int))) (ys := y32) (by kernel_rfl) ty29 hI (fun _ => rfl) (by kernel_rfl) hl33 ?_)
        intro w hI
        refine OpsT.pures (r := []) [8] [1, 7, 9, 11, 12, 13, 14, 15] (S' := [(1, .slice A_a1 a1.length c_a1), (7, .bool y3), (9, .slice A16 (((([] : List ApiEvent) ++ a1) ++ a2).length) cp17), (11, .bool y21), (12, .pointer (some ⟨b27, 0, none⟩)), (13, .bool y26), (14, .pointer (some ⟨b35, 0, none⟩)), (15, .bool y34)]) (by kernel_rfl) ?_
        refine OpsT.done ?_
        refine Qn.then ?_
        refine CodT.seq ?_
        obtain ⟨r1, h1, h0⟩ := bindS h0
        refine CodT.meet (fun a w => ∃ (x36 : Bool), x36 = r1 ∧ Fr 105 [(1, .slice A_a1 a1.length c_a1), (7, .bool y3), (9, .slice A16 (((([] : List ApiEvent) ++ a1) ++ a2).length) cp17), (12, .pointer (some ⟨b27, 0, none⟩)), (14, .pointer (some ⟨b35, 0, none⟩)), (15, .bool y34), (60, .bool x36)] a ∧ Inv w0 Z28 w (star (pt b35 (.cells (cA (Value.int .u8) y32).toArray 29 (0, 0))) (star (pt b27 (.cells (cA (Value.int .u8) y24).toArray 29 (0, 0))) A))) ?_ ?_
        ·
          refine CodT.regionL [0, 1, 2, 3, 4, 5] (by kernel_rfl) ?_
          refine OpsT.pures (r := [3, 4, 5]) [0, 1, 2] [1, 7, 9, 12, 13, 14, 15, 57] (S' := [(1, .slice A_a1 a1.length c_a1), (7, .bool y3), (9, .slice A16 (((([] : List ApiEvent) ++ a1) ++ a2).length) cp17), (12, .pointer (some ⟨b27, 0, none⟩)), (13, .bool y26), (14, .pointer (some ⟨b35, 0, none⟩)), (15, .bool y34), (57, .bool (!y21))]) (by kernel_rfl) ?_
          by_cases hb37 : (!y21) = true
          · rw [if_pos hb37] at h1
            refine OpsT.keep [1, 7, 9, 12, 13, 14, 15, 57] (S' := [(1, .slice A_a1 a1.length c_a1), (7, .bool y3), (9, .slice A16 (((([] : List ApiEvent) ++ a1) ++ a2).length) cp17), (12, .pointer (some ⟨b27, 0, none⟩)), (13, .bool y26), (14, .pointer (some ⟨b35, 0, none⟩)), (15, .bool y34), (57, .bool true)]) (by simp only [hb37]; kernel_rfl) ?_
            refine OpsT.pures (r := []) [3, 4, 5] [1, 7, 9, 12, 14, 15, 60] (S' := [(1, .slice A_a1 a1.length c_a1), (7, .bool y3), (9, .slice A16 (((([] : List ApiEvent) ++ a1) ++ a2).length) cp17), (12, .pointer (some ⟨b27, 0, none⟩)), (14, .pointer (some ⟨b35, 0, none⟩)), (15, .bool y34), (60, .bool true)]) (by kernel_rfl) ?_
            refine OpsT.done ?_
            have hI := hI.mono (pick3 _ _ _ _)
            have hI := hI.drop
            have hI := hI.mono (pick3 _ _ _ _)
            have hI := hI.drop
            have e := someS h1
            subst e
            exact Qn.thenJ fun a ha => ⟨true, rfl, ha.keep [1, 7, 9, 12, 14, 15, 60] (by kernel_rfl), hI⟩
          · rw [if_neg hb37] at h1
            have hb37 : (!y21) = false := by simpa using hb37
            refine OpsT.keep [1, 7, 9, 12, 13, 14, 15, 57] (S' := [(1, .slice A_a1 a1.length c_a1), (7, .bool y3), (9, .slice A16 (((([] : List ApiEvent) ++ a1) ++ a2).length) cp17), (12, .pointer (some ⟨b27, 0, none⟩)), (13, .bool y26), (14, .pointer (some ⟨b35, 0, none⟩)), (15, .bool y34), (57, .bool false)]) (by simp only [hb37]; kernel_rfl) ?_
            refine OpsT.pures (r := []) [3, 4, 5] [1, 7, 9, 12, 14, 15, 60] (S' := [(1, .slice A_a1 a1.length c_a1), (7, .bool y3), (9, .slice A16 (((([] : List ApiEvent) ++ a1) ++ a2).length) cp17), (12, .pointer (some ⟨b27, 0, none⟩)), (14, .pointer (some ⟨b35, 0, none⟩)), (15, .bool y34), (60, .bool (!y26))]) (by kernel_rfl) ?_
            refine OpsT.done ?_
            have hI := hI.mono (pick3 _ _ _ _)
            have hI := hI.drop
            have hI := hI.mono (pick3 _ _ _ _)
            have hI := hI.drop
            have e := someS h1
            subst e
            exact Qn.thenJ fun a ha => ⟨!y26, rfl, ha.keep [1, 7, 9, 12, 14, 15, 60] (by kernel_rfl), hI⟩
        ·
          rintro a w ⟨x36, rfl, ha, hI⟩
          try dsimp only at h0
          refine CodT.of ?_ ha
          by_cases hb38 : x36 = true
          · rw [if_pos hb38] at h0
            refine CodT.yes' (b := x36) (by kernel_rfl) hb38 ?_
            obtain ⟨r1, h1, h0⟩ := bindS h0
            refine CodT.meet (fun a w => ∃ (x39 : Bool), x39 = r1 ∧ Fr 105 [(6, .bool x39)] a ∧ Inv w0 Z28 w A) ?_ ?_
            ·
              refine CodT.regionL [0, 1, 2, 3, 4, 5, 6, 7, 8, 9, 10] (by kernel_rfl) ?_
              refine OpsT.pures (r := [2, 3, 4, 5, 6, 7, 8, 9, 10]) [0, 1] [14, 15, 62] (S' := [(14, .pointer (some ⟨b35, 0, none⟩)), (15, .bool y34), (62, .bool y3)]) (by kernel_rfl) ?_
              by_cases hb40 : y3 = true
              · rw [if_pos hb40] at h1
                refine OpsT.keep [14, 15, 62] (S' := [(14, .pointer (some ⟨b35, 0, none⟩)), (15, .bool y34), (62, .bool true)]) (by simp only [hb40]; kernel_rfl) ?_
                refine OpsT.pures (r := [6, 7, 8, 9, 10]) [2, 3, 4, 5] [14, 66] (S' := [(14, .pointer (some ⟨b35, 0, none⟩)), (66, .bool (!y34))]) (by kernel_rfl) ?_
                by_cases hb41 : (!y34) = true
                · rw [if_pos hb41] at h1
                  refine OpsT.keep [14, 66] (S' := [(14, .pointer (some ⟨b35, 0, none⟩)), (66, .bool true)]) (by simp only [hb41]; kernel_rfl) ?_
                  refine OpsT.cons (Does.yi (Yl.load (d := 67) (T := 29) (v := .agg (cA (Value.int .u8) y32).toArray) (by kernel_rfl) (ldBN ty29 (l := cA (Value.int .u8) y32) (o := 0) (cs := cA (Value.int .u8) y32) (ent_refl _) ((cA_length _ _).trans hl33) (whole _ _ ((cA_length _ _).trans hl33)))) hI ?_)
                  refine OpsT.pures (r := [8, 9, 10]) [7] [66, 67, 68] (S' := [(66, .bool true), (67, .agg (cA (Value.int .u8) y32).toArray), (68, .agg (cA (Value.int .u8) ([0, 0, 0, 0, 0, 0, 0, 0, 0, 0, 0, 0, 0, 0, 0, 0, 0, 0, 0, 0, 0, 0, 0, 0, 0, 0, 0, 0, 0, 0, 0, 0] : List Int)).toArray)]) (by kernel_rfl) ?_
                  refine OpsT.cons (Does.yi (Yl.eqlA (k := .u8) (d := 69) (T := 29) (xs := y32) (ys := ([0, 0, 0, 0, 0, 0, 0, 0, 0, 0, 0, 0, 0, 0, 0, 0, 0, 0, 0, 0, 0, 0, 0, 0, 0, 0, 0, 0, 0, 0, 0, 0] : List Int)) (by kernel_rfl) Go.Proofs.Try.underlying29 (by kernel_rfl) Go.Proofs.Try.underlying5 ty5 hl33 (by kernel_rfl)) hI ?_)
                  refine OpsT.pures (r := []) [9, 10] [6] (S' := [(6, .bool (eqA y32 ([0, 0, 0, 0, 0, 0, 0, 0, 0, 0, 0, 0, 0, 0, 0, 0, 0, 0, 0, 0, 0, 0, 0, 0, 0, 0, 0, 0, 0, 0, 0, 0] : List Int)))]) (by kernel_rfl) ?_
                  refine OpsT.done ?_
                  have hI := hI.drop
                  have hI := hI.drop
                  have e := someS h1
                  subst e
                  exact Qn.thenJ fun a ha => ⟨eqA y32 ([0, 0, 0, 0, 0, 0, 0, 0, 0, 0, 0, 0, 0, 0, 0, 0, 0, 0, 0, 0, 0, 0, 0, 0, 0, 0, 0, 0, 0, 0, 0, 0] : List Int), rfl, ha.keep [6] (by kernel_rfl), hI⟩
                · rw [if_neg hb41] at h1
                  have hb41 : (!y34) = false := by simpa using hb41
                  refine OpsT.keep [14, 66] (S' := [(14, .pointer (some ⟨b35, 0, none⟩)), (66, .bool false)]) (by simp only [hb41]; kernel_rfl) ?_
                  refine OpsT.pures (r := []) [6, 7, 8, 9, 10] [6] (S' := [(6, .bool false)]) (by kernel_rfl) ?_
                  refine OpsT.done ?_
                  have hI := hI.drop
                  have hI := hI.drop
                  have e := someS h1
                  subst e
                  exact Qn.thenJ fun a ha => ⟨false, rfl, ha.keep [6] (by kernel_rfl), hI⟩
              · rw [if_neg hb40] at h1
                have hb40 : y3 = false := by simpa using hb40
                refine OpsT.keep [14, 15, 62] (S' := [(14, .pointer (some ⟨b35, 0, none⟩)), (15, .bool y34), (62, .bool false)]) (by simp only [hb40]; kernel_rfl) ?_
                refine OpsT.pures (r := []) [2, 3, 4, 5, 6, 7, 8, 9, 10] [6] (S' := [(6, .bool false)]) (by kernel_rfl) ?_
                refine OpsT.done ?_
                have hI := hI.drop
                have hI := hI.drop
                have e := someS h1
                subst e
                exact Qn.thenJ fun a ha => ⟨false, rfl, ha.keep [6] (by kernel_rfl), hI⟩
            ·
              rintro a w ⟨x39, rfl, ha, hI⟩
              try dsimp only at h0
              refine CodT.of ?_ ha
              refine CodT.ret ?_
              refine Qn.ret_then ?_
              have e := someS h0
              subst e
              refine Qn.keep [6] (S' := [(6, .bool x39)]) (by kernel_rfl) ?_
              exact post_ret (v := .bool x39) (fun a ha => RunRes.run (vs := [.bool x39]) (.tmp (t := 6) (by kernel_rfl) .nil) ha (by kernel_rfl)) ⟨rfl, hI.weaken hle29⟩
          · rw [if_neg hb38] at h0
            refine CodT.no' (b := x36) (by kernel_rfl) (by simpa using hb38) ?_
            refine CodT.skip ?_
            refine Qn.then ?_
            refine CodT.seq ?_
            refine CodT.regionL [0, 1, 2] (by kernel_rfl) ?_
            refine OpsT.pures (r := [1, 2]) [0] [1, 7, 12, 14, 15, 71] (S' := [(1, .slice A_a1 a1.length c_a1), (7, .bool y3), (12, .pointer (some ⟨b27, 0, none⟩)), (14, .pointer (some ⟨b35, 0, none⟩)), (15, .bool y34), (71, .slice A16 (((([] : List ApiEvent) ++ a1) ++ a2).length) cp17)]) (by kernel_rfl) ?_
            obtain ⟨y43, hc42, h0⟩ := bindS h0
            try dsimp only at h0
            refine OpsT.cons (Does.call (d := some 72) (n := 13) (vs := [.slice A16 (((([] : List ApiEvent) ++ a1) ++ a2).length) cp17]) (by kernel_rfl) en13 (c13 w0 w _ _ hI A16 cp17 ((([] : List ApiEvent) ++ a1) ++ a2) hr30 _ hc42) ?_)
            rintro e w ⟨A44, cp45, rfl, hI⟩
            refine ⟨_, rfl, ?_⟩
            refine OpsT.pures (r := []) [2] [1, 7, 12, 14, 15, 16] (S' := [(1, .slice A_a1 a1.length c_a1), (7, .bool y3), (12, .pointer (some ⟨b27, 0, none⟩)), (14, .pointer (some ⟨b35, 0, none⟩)), (15, .bool y34), (16, .slice A44 y43.length cp45)]) (by kernel_rfl) ?_
            refine OpsT.done ?_
            refine Qn.then ?_
            refine CodT.seq ?_
            refine CodT.regionL [0, 1, 2] (by kernel_rfl) ?_
            refine OpsT.pures (r := [1, 2]) [0] [7, 12, 14, 15, 16, 73] (S' := [(7, .bool y3), (12, .pointer (some ⟨b27, 0, none⟩)), (14, .pointer (some ⟨b35, 0, none⟩)), (15, .bool y34), (16, .slice A44 y43.length cp45), (73, .slice A_a1 a1.length c_a1)]) (by kernel_rfl) ?_
            obtain ⟨y47, hc46, h0⟩ := bindS h0
            try dsimp only at h0
            refine OpsT.cons (Does.call (d := some 74) (n := 13) (vs := [.slice A_a1 a1.length c_a1]) (by kernel_rfl) en13 (c13 w0 w _ _ hI A_a1 c_a1 a1 (hr_a1.mono hle29) _ hc46) ?_)
            rintro e w ⟨A48, cp49, rfl, hI⟩
            refine ⟨_, rfl, ?_⟩
            refine OpsT.pures (r := []) [2] [7, 12, 14, 15, 16, 17] (S' := [(7, .bool y3), (12, .pointer (some ⟨b27, 0, none⟩)), (14, .pointer (some ⟨b35, 0, none⟩)), (15, .bool y34), (16, .slice A44 y43.length cp45), (17, .slice A48 y47.length cp49)]) (by kernel_rfl) ?_
            refine OpsT.done ?_
            refine Qn.then ?_
            refine CodT.seq ?_
            refine CodT.seq ?_
            refine CodT.regionL [0] (by kernel_rfl) ?_
            refine OpsT.pures (r := []) [0] [7, 12, 14, 15, 16, 17, 18] (S' := [(7, .bool y3), (12, .pointer (some ⟨b27, 0, none⟩)), (14, .pointer (some ⟨b35, 0, none⟩)), (15, .bool y34), (16, .slice A44 y43.length cp45), (17, .slice A48 y47.length cp49), (18, .int .i64 0)]) (by kernel_rfl) ?_
            refine OpsT.done ?_
            refine Qn.then ?_
            obtain ⟨r1, h1, h0⟩ := bindS h0
            refine CodT.meet1 (fun a w => .inr () = r1 ∧ Fr 105 [(7, .bool y3), (12, .pointer (some ⟨b27, 0, none⟩)), (14, .pointer (some ⟨b35, 0, none⟩)), (15, .bool y34)] a ∧ Inv w0 Z28 w (star (pt b35 (.cells (cA (Value.int .u8) y32).toArray 29 (0, 0))) (star (pt b27 (.cells (cA (Value.int .u8) y24).toArray 29 (0, 0))) A))) ?_ ?_
            ·
              refine CodT.block ?_
              have hI := hI.mono (pick2 _ _ _)
              have hI := hI.mono (pick2 _ _ _)
              have hI := hI.mono (pick4 _ _ _ _ _)
              have hI := hI.mono (pick4 _ _ _ _ _)
              refine (fun a ha => wp_loopN (fun k a w => ∃ (x50 : Int), law06_ChainParts.l0 y47 y43 k x50 = some r1 ∧ Fr 105 [(7, .bool y3), (12, .pointer (some ⟨b27, 0, none⟩)), (14, .pointer (some ⟨b35, 0, none⟩)), (15, .bool y34), (16, .slice A44 y43.length cp45), (17, .slice A48 y47.length cp49), (18, .int .i64 x50)] a ∧ Inv w0 Z28 w (star (pt b35 (.cells (cA (Value.int .u8) y32).toArray 29 (0, 0))) (star (pt b27 (.cells (cA (Value.int .u8) y24).toArray 29 (0, 0))) (star (ownS 29 (cA (Value.int .u8)) 32 A48 cp49 y47) (star (ownS 29 (cA (Value.int .u8)) 32 A44 cp45 y43) A))))) ?_ FU a w ⟨0, h1, ha.keep [7, 12, 14, 15, 16, 17, 18] (by kernel_rfl), hI⟩)
              clear h1 hI
              rintro k a w ⟨x50, h1, ha, hI⟩
              rcases k with _ | k
              · cases h1
              simp only [law06_ChainParts.l0] at h1
              refine CodT.of ?_ ha
              refine CodT.seq ?_
              refine CodT.seq ?_
              refine CodT.regionL [0, 1, 2, 3] (by kernel_rfl) ?_
              refine OpsT.pures (r := []) [0, 1, 2, 3] [7, 12, 14, 15, 16, 17, 18, 78] (S' := [(7, .bool y3), (12, .pointer (some ⟨b27, 0, none⟩)), (14, .pointer (some ⟨b35, 0, none⟩)), (15, .bool y34), (16, .slice A44 y43.length cp45), (17, .slice A48 y47.length cp49), (18, .int .i64 x50), (78, .bool (decide (x50 < (y47.length : Int))))]) (by kernel_rfl) ?_
              refine OpsT.done ?_
              refine Qn.then ?_
              by_cases hb51 : (decide (x50 < (y47.length : Int))) = true
              · rw [if_pos hb51] at h1
                refine CodT.yes' (b := decide (x50 < (y47.length : Int))) (by kernel_rfl) hb51 ?_
                refine CodT.skip ?_
                refine Qn.then ?_
                refine CodT.seq ?_
                refine CodT.block ?_
                obtain ⟨r2, h2, h1⟩ := bindS h1
                refine CodT.meet (fun a w => ∃ (x52 : Bool), x52 = r2 ∧ Fr 105 [(7, .bool y3), (12, .pointer (some ⟨b27, 0, none⟩)), (14, .pointer (some ⟨b35, 0, none⟩)), (15, .bool y34), (16, .slice A44 y43.length cp45), (17, .slice A48 y47.length cp49), (18, .int .i64 x50), (95, .bool x52)] a ∧ Inv w0 Z28 w (star (pt b35 (.cells (cA (Value.int .u8) y32).toArray 29 (0, 0))) (star (pt b27 (.cells (cA (Value.int .u8) y24).toArray 29 (0, 0))) (star (ownS 29 (cA (Value.int .u8)) 32 A48 cp49 y47) (star (ownS 29 (cA (Value.int .u8)) 32 A44 cp45 y43) A))))) ?_ ?_
                ·
                  refine CodT.drawI (n := 15) [] (by kernel_rfl) (by kernel_rfl) hI ?_
                  intro w hI
                  refine GmT.p' 0 81 (.int .i64 x50) (by kernel_rfl) (by kernel_rfl) ?_
                  refine GmT.p' 1 82 (.slice A44 y43.length cp45) (by kernel_rfl) (by kernel_rfl) ?_
                  refine GmT.p' 2 83 (.int .i64 (y43.length : Int)) (by kernel_rfl) (by kernel_rfl) ?_
                  refine GmT.p' 3 84 (.bool (decide (x50 ≥ (y43.length : Int)))) (by kernel_rfl) (by kernel_rfl) ?_
                  refine GmT.p' 4 85 (.bool (decide (x50 ≥ (y43.length : Int)))) (by kernel_rfl) (by kernel_rfl) ?_
                  by_cases hb53 : (decide (x50 ≥ (y43.length : Int))) = true
                  · rw [if_pos hb53] at h2
                    refine GmT.keep [7, 12, 14, 15, 16, 17, 18, 85] (S' := [(7, .bool y3), (12, .pointer (some ⟨b27, 0, none⟩)), (14, .pointer (some ⟨b35, 0, none⟩)), (15, .bool y34), (16, .slice A44 y43.length cp45), (17, .slice A48 y47.length cp49), (18, .int .i64 x50), (85, .bool true)]) (by simp only [hb53]; kernel_rfl) ?_
                    refine GmT.p' 5 86 (undef) (by kernel_rfl) (by kernel_rfl) ?_
                    refine GmT.p' 6 87 (undef) (by kernel_rfl) (by kernel_rfl) ?_
                    refine GmT.p' 7 88 (undef) (by kernel_rfl) (by kernel_rfl) ?_
                    refine GmT.p' 8 89 (undef) (by kernel_rfl) (by kernel_rfl) ?_
                    refine GmT.p' 9 90 (undef) (by kernel_rfl) (by kernel_rfl) ?_
                    refine GmT.p' 10 91 (undef) (by kernel_rfl) (by kernel_rfl) ?_
                    refine GmT.p' 11 92 (undef) (by kernel_rfl) (by kernel_rfl) ?_
                    refine GmT.p' 12 93 (undef) (by kernel_rfl) (by kernel_rfl) ?_
                    refine GmT.p' 13 94 (undef) (by kernel_rfl) (by kernel_rfl) ?_
                    refine GmT.p' 14 95 (.bool true) (by kernel_rfl) (by kernel_rfl) ?_
                    refine GmT.done (by kernel_rfl) ?_
                    have e := someS h2
                    subst e
                    exact Qn.thenJ fun a ha => ⟨true, rfl, ha.keep [7, 12, 14, 15, 16, 17, 18, 95] (by kernel_rfl), hI⟩
                  · rw [if_neg hb53] at h2
                    have hb53 : (decide (x50 ≥ (y43.length : Int))) = false := by simpa using hb53
                    refine GmT.keep [7, 12, 14, 15, 16, 17, 18, 85] (S' := [(7, .bool y3), (12, .pointer (some ⟨b27, 0, none⟩)), (14, .pointer (some ⟨b35, 0, none⟩)), (15, .bool y34), (16, .slice A44 y43.length cp45), (17, .slice A48 y47.length cp49), (18, .int .i64 x50), (85, .bool false)]) (by simp only [hb53]; kernel_rfl) ?_
                    refine GmT.p' 5 86 (.slice A48 y47.length cp49) (by kernel_rfl) (by kernel_rfl) ?_
                    refine GmT.p' 6 87 (.int .i64 x50) (by kernel_rfl) (by kernel_rfl) ?_
                    refine GmT.p' 9 90 (.slice A44 y43.length cp45) (by kernel_rfl) (by kernel_rfl) ?_
                    refine GmT.p' 10 91 (.int .i64 x50) (by kernel_rfl) (by kernel_rfl) ?_
                    obtain ⟨hg54, h2⟩ := guardS h2
                    obtain ⟨g55, hA56, hr57, hl58⟩ := ownS_get (hI.mono (pick3 _ _ _ _)) hg54.1 hg54.2
                    refine GmT.r (i := 7) 2 (by kernel_rfl) (by kernel_rfl) (Yl.indexSlice (d := 88) (T := 32) (cc := cp49) (k := .i64) (j := x50) (g := g55) (o := 0) (by kernel_rfl) Go.Proofs.Try.underlying32 ty29 hA56 hg54.1 hg54.2) hI ?_
                    refine GmT.r (i := 8) 2 (by kernel_rfl) (by kernel_rfl) (Yl.load (d := 89) (T := 29) (v := .agg (cA (Value.int .u8) (gt y47 x50)).toArray) (by kernel_rfl) (ldRN ty29 (cs := cA (Value.int .u8) (gt y47 x50)) 0 (fun w hC => hr57 w0 w _ (hC.mono (pick3 _ _ _ _))) ((cA_length _ _).trans ((cA_length _ _).symm.trans hl58)) (whole _ _ ((cA_length _ _).trans ((cA_length _ _).symm.trans hl58))))) hI ?_
                    obtain ⟨hg59, h2⟩ := guardS h2
                    obtain ⟨g60, hA61, hr62, hl63⟩ := ownS_get (hI.mono (pick4 _ _ _ _ _)) hg59.1 hg59.2
                    refine GmT.r (i := 11) 2 (by kernel_rfl) (by kernel_rfl) (Yl.indexSlice (d := 92) (T := 32) (cc := cp45) (k := .i64) (j := x50) (g := g60) (o := 0) (by kernel_rfl) Go.Proofs.Try.underlying32 ty29 hA61 hg59.1 hg59.2) hI ?_
                    refine GmT.r (i := 12) 2 (by kernel_rfl) (by kernel_rfl) (Yl.load (d := 93) (T := 29) (v := .agg (cA (Value.int .u8) (gt y43 x50)).toArray) (by kernel_rfl) (ldRN ty29 (cs := cA (Value.int .u8) (gt y43 x50)) 0 (fun w hC => hr62 w0 w _ (hC.mono (pick4 _ _ _ _ _))) ((cA_length _ _).trans ((cA_length _ _).symm.trans hl63)) (whole _ _ ((cA_length _ _).trans ((cA_length _ _).symm.trans hl63))))) hI ?_
                    refine GmT.r (i := 13) 2 (by kernel_rfl) (by kernel_rfl) (Yl.neqA (k := .u8) (d := 94) (T := 29) (xs := gt y47 x50) (ys := gt y43 x50) (by kernel_rfl) Go.Proofs.Try.underlying29 (by kernel_rfl) Go.Proofs.Try.underlying5 ty5 ((cA_length _ _).symm.trans hl58) ((cA_length _ _).symm.trans hl63)) hI ?_
                    refine GmT.p' 14 95 (.bool (!(eqA (gt y47 x50) (gt y43 x50)))) (by kernel_rfl) (by kernel_rfl) ?_
                    refine GmT.done (by kernel_rfl) ?_
                    have e := someS h2
                    subst e
                    exact Qn.thenJ fun a ha => ⟨!(eqA (gt y47 x50) (gt y43 x50)), rfl, ha.keep [7, 12, 14, 15, 16, 17, 18, 95] (by kernel_rfl), hI⟩
                ·
                  rintro a w ⟨x52, rfl, ha, hI⟩
                  try dsimp only at h1
                  refine CodT.of ?_ ha
                  by_cases hb64 : x52 = true
                  · rw [if_pos hb64] at h1
                    refine CodT.yes' (b := x52) (by kernel_rfl) hb64 ?_
                    refine CodT.seq ?_
                    refine CodT.regionL [0] (by kernel_rfl) ?_
                    refine OpsT.pures (r := []) [0] [6] (S' := [(6, .bool false)]) (by kernel_rfl) ?_
                    refine OpsT.done ?_
                    refine Qn.then ?_
                    refine CodT.ret ?_
                    refine Qn.block_ret ?_
                    refine Qn.ret_then ?_
                    refine Qn.ret_then ?_
                    refine Qn.block_ret ?_
                    refine Qn.ret_then ?_
                    refine Qn.ret_then ?_
                    have hI := hI.drop
                    have hI := hI.drop
                    have hI := hI.drop
                    have hI := hI.drop
                    have e := someS h1
                    subst e
                    try dsimp only at h0
                    have e := someS h0
                    subst e
                    refine Qn.keep [6] (S' := [(6, .bool false)]) (by kernel_rfl) ?_
                    exact post_ret (v := .bool false) (fun a ha => RunRes.run (vs := [.bool false]) (.tmp (t := 6) (by kernel_rfl) .nil) ha (by kernel_rfl)) ⟨rfl, hI.weaken hle29⟩
                  · rw [if_neg hb64] at h1
                    refine CodT.no' (b := x52) (by kernel_rfl) (by simpa using hb64) ?_
                    refine CodT.skip ?_
                    refine Qn.block_normal ?_
                    refine Qn.then ?_
                    refine CodT.regionL [0, 1, 2] (by kernel_rfl) ?_
                    refine OpsT.pures (r := []) [0, 1, 2] [7, 12, 14, 15, 16, 17, 18] (S' := [(7, .bool y3), (12, .pointer (some ⟨b27, 0, none⟩)), (14, .pointer (some ⟨b35, 0, none⟩)), (15, .bool y34), (16, .slice A44 y43.length cp45), (17, .slice A48 y47.length cp49), (18, .int .i64 (wi64 (x50 + 1)))]) (by kernel_rfl) ?_
                    refine OpsT.done ?_
                    exact Qn.thenJ fun a ha => ⟨k, Nat.lt_succ_self k, wi64 (x50 + 1), h1, ha.keep [7, 12, 14, 15, 16, 17, 18] (by kernel_rfl), hI⟩
              · rw [if_neg hb51] at h1
                refine CodT.no' (b := decide (x50 < (y47.length : Int))) (by kernel_rfl) (by simpa using hb51) ?_
                refine CodT.exit ?_
                refine Qn.exit_then ?_
                refine Qn.exit_then ?_
                refine Qn.block ?_
                have hI := hI.mono (pick3 _ _ _ _)
                have hI := hI.drop
                have hI := hI.mono (pick3 _ _ _ _)
                have hI := hI.drop
                have e := someS h1
                subst e
                exact Qn.thenJ fun a ha => ⟨rfl, ha.keep [7, 12, 14, 15] (by kernel_rfl), hI⟩
            ·
              rintro a w ⟨rfl, ha, hI⟩
              try dsimp only at h0
              refine Qn.of ?_ ha
              refine Qn.then ?_
              obtain ⟨r1, h1, h0⟩ := bindS h0
              refine CodT.meet (fun a w => ∃ (x65 : Bool), x65 = r1 ∧ Fr 105 [(6, .bool x65)] a ∧ Inv w0 Z28 w A) ?_ ?_
              ·
                refine CodT.regionL [0, 1, 2, 3, 4, 5, 6, 7, 8, 9] (by kernel_rfl) ?_
                refine OpsT.pures (r := [2, 3, 4, 5, 6, 7, 8, 9]) [0, 1] [12, 14, 15, 97] (S' := [(12, .pointer (some ⟨b27, 0, none⟩)), (14, .pointer (some ⟨b35, 0, none⟩)), (15, .bool y34), (97, .bool y3)]) (by kernel_rfl) ?_
                by_cases hb66 : y3 = true
                · rw [if_pos hb66] at h1
                  refine OpsT.keep [12, 14, 15, 97] (S' := [(12, .pointer (some ⟨b27, 0, none⟩)), (14, .pointer (some ⟨b35, 0, none⟩)), (15, .bool y34), (97, .bool true)]) (by simp only [hb66]; kernel_rfl) ?_
                  refine OpsT.pures (r := [5, 6, 7, 8, 9]) [2, 3, 4] [12, 14, 100] (S' := [(12, .pointer (some ⟨b27, 0, none⟩)), (14, .pointer (some ⟨b35, 0, none⟩)), (100, .bool y34)]) (by kernel_rfl) ?_
                  by_cases hb67 : y34 = true
                  · rw [if_pos hb67] at h1
                    refine OpsT.keep [12, 14, 100] (S' := [(12, .pointer (some ⟨b27, 0, none⟩)), (14, .pointer (some ⟨b35, 0, none⟩)), (100, .bool true)]) (by simp only [hb67]; kernel_rfl) ?_
                    refine OpsT.cons (Does.yi (Yl.load (d := 101) (T := 29) (v := .agg (cA (Value.int .u8) y24).toArray) (by kernel_rfl) (ldBN ty29 (l := cA (Value.int .u8) y24) (o := 0) (cs := cA (Value.int .u8) y24) (pick2 _ _ _) ((cA_length _ _).trans hl25) (whole _ _ ((cA_length _ _).trans hl25)))) hI ?_)
                    refine OpsT.cons (Does.yi (Yl.load (d := 102) (T := 29) (v := .agg (cA (Value.int .u8) y32).toArray) (by kernel_rfl) (ldBN ty29 (l := cA (Value.int .u8) y32) (o := 0) (cs := cA (Value.int .u8) y32) (ent_refl _) ((cA_length _ _).trans hl33) (whole _ _ ((cA_length _ _).trans hl33)))) hI ?_)
                    refine OpsT.cons (Does.yi (Yl.eqlA (k := .u8) (d := 103) (T := 29) (xs := y24) (ys := y32) (by kernel_rfl) Go.Proofs.Try.underlying29 (by kernel_rfl) Go.Proofs.Try.underlying5 ty5 hl25 hl33) hI ?_)
                    refine OpsT.pures (r := []) [8, 9] [6] (S' := [(6, .bool (eqA y24 y32))]) (by kernel_rfl) ?_
                    refine OpsT.done ?_
                    have hI := hI.drop
                    have hI := hI.drop
                    have e := someS h1
                    subst e
                    exact Qn.thenJ fun a ha => ⟨eqA y24 y32, rfl, ha.keep [6] (by kernel_rfl), hI⟩
                  · rw [if_neg hb67] at h1
                    have hb67 : y34 = false := by simpa using hb67
                    refine OpsT.keep [12, 14, 100] (S' := [(12, .pointer (some ⟨b27, 0, none⟩)), (14, .pointer (some ⟨b35, 0, none⟩)), (100, .bool false)]) (by simp only [hb67]; kernel_rfl) ?_
                    refine OpsT.pures (r := []) [5, 6, 7, 8, 9] [6] (S' := [(6, .bool false)]) (by kernel_rfl) ?_
                    refine OpsT.done ?_
                    have hI := hI.drop
                    have hI := hI.drop
                    have e := someS h1
                    subst e
                    exact Qn.thenJ fun a ha => ⟨false, rfl, ha.keep [6] (by kernel_rfl), hI⟩
                · rw [if_neg hb66] at h1
                  have hb66 : y3 = false := by simpa using hb66
                  refine OpsT.keep [12, 14, 15, 97] (S' := [(12, .pointer (some ⟨b27, 0, none⟩)), (14, .pointer (some ⟨b35, 0, none⟩)), (15, .bool y34), (97, .bool false)]) (by simp only [hb66]; kernel_rfl) ?_
                  refine OpsT.pures (r := []) [2, 3, 4, 5, 6, 7, 8, 9] [6] (S' := [(6, .bool false)]) (by kernel_rfl) ?_
                  refine OpsT.done ?_
                  have hI := hI.drop
                  have hI := hI.drop
                  have e := someS h1
                  subst e
                  exact Qn.thenJ fun a ha => ⟨false, rfl, ha.keep [6] (by kernel_rfl), hI⟩
              ·
                rintro a w ⟨x65, rfl, ha, hI⟩
                try dsimp only at h0
                refine CodT.of ?_ ha
                refine CodT.ret ?_
                have e := someS h0
                subst e
                refine Qn.keep [6] (S' := [(6, .bool x65)]) (by kernel_rfl) ?_
                exact post_ret (v := .bool x65) (fun a ha => RunRes.run (vs := [.bool x65]) (.tmp (t := 6) (by kernel_rfl) .nil) ha (by kernel_rfl)) ⟨rfl, hI.weaken hle29⟩
end Go.Cen
