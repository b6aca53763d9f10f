/- That the machine computes these: walks, printed by a program of ours. -/
import Derived.Test.YtjbofffabkimeaaPx
import Derived.Test.YtjbofffabkimeaaWx0
set_option linter.unusedVariables false
set_option linter.unusedSimpArgs false
namespace Go.Cen
variable [TabC]
set_option maxRecDepth 100000 in
set_option maxHeartbeats 4000000 in
/-- cenotaph/wire.GetSum -/
theorem c21 (w0 w : World) (Z : Hp) (A : HP) (hI : Inv w0 Z w A) (hT : Tabs Z) (a0 : ByteArray) (r : ((List Int) × ByteArray × Bool)) (h0 : wire_GetSum a0 = some r) :
    Calls prog 21 #[.string a0] w (fun e w' => e = .returned (.tuple #[.agg (cA (Value.int .u8) r.1).toArray, .string r.2.1, .bool r.2.2]) ∧ r.1.length = 32 ∧ Inv w0 Z w' A) := by
  have e4 := calls_intro (R := (fun e w' => e = .returned (.tuple #[.agg (cA (Value.int .u8) r.1).toArray, .string r.2.1, .bool r.2.2]) ∧ r.1.length = 32 ∧ Inv w0 Z w' A)) (w := w) (args := [.string a0]) (fn := Go.Proofs.Try.f21) 25 Go.Proofs.Try.func21 (by rfl) Go.Proofs.Try.ntmps21 (by kernel_rfl)
  refine e4 ?_
  clear e4
  unfold wire_GetSum at h0
  refine CodT.seq ?_
  refine CodT.regionL [0, 1, 2] (by kernel_rfl) ?_
  refine OpsT.cons (Does.allocL (d := 2) (T := 24) (cA (Value.int .u8) (List.replicate 32 (0 : Int))) (by kernel_rfl) ty24 hI (by kernel_rfl) ?_)
  intro b1 w hI
  refine OpsT.pures (r := []) [1, 2] [0, 2] (S' := [(0, .string a0), (2, .pointer (some ⟨b1, 0, none⟩))]) (by kernel_rfl) ?_
  refine OpsT.done ?_
  refine Qn.then ?_
  refine CodT.seq ?_
  refine CodT.seq ?_
  refine CodT.regionL [0, 1, 2] (by kernel_rfl) ?_
  refine OpsT.pures (r := []) [0, 1, 2] [0, 2, 7] (S' := [(0, .string a0), (2, .pointer (some ⟨b1, 0, none⟩)), (7, .bool (decide ((a0.size : Int) < 32)))]) (by kernel_rfl) ?_
  refine OpsT.done ?_
  refine Qn.then ?_
  by_cases hb2 : (decide ((a0.size : Int) < 32)) = true
  · rw [if_pos hb2] at h0
    refine CodT.yes' (b := decide ((a0.size : Int) < 32)) (by kernel_rfl) hb2 ?_
    refine CodT.seq ?_
    refine CodT.regionL [0, 1, 2, 3, 4, 5, 6, 7] (by kernel_rfl) ?_
    refine OpsT.pures (r := [1, 2, 3, 4, 5, 6, 7]) [0] [2, 8] (S' := [(2, .pointer (some ⟨b1, 0, none⟩)), (8, .agg (c_WireGot_api_Digest (WireGot_api_Digest.mk (List.replicate 32 (0 : Int)) (⟨#[]⟩ : ByteArray) false)).toArray)]) (by kernel_rfl) ?_
    obtain ⟨⟨y4, y6, y7⟩, hc3, h0⟩ := bindS h0
    try dsimp only at h0
    refine OpsT.cons (Does.call (d := some 9) (n := 27) (vs := [.agg (c_WireGot_api_Digest (WireGot_api_Digest.mk (List.replicate 32 (0 : Int)) (⟨#[]⟩ : ByteArray) false)).toArray]) (by kernel_rfl) en27 (c27 w0 w _ _ hI hT (WireGot_api_Digest.mk (List.replicate 32 (0 : Int)) (⟨#[]⟩ : ByteArray) false) (by kernel_rfl) _ hc3) ?_)
    rintro e w ⟨rfl, hl5, hI⟩
    refine ⟨_, rfl, ?_⟩
    refine OpsT.pures (r := [5, 6, 7]) [2, 3, 4] [2, 10, 11, 12] (S' := [(2, .pointer (some ⟨b1, 0, none⟩)), (10, .agg (cA (Value.int .u8) y4).toArray), (11, .string y6), (12, .bool y7)]) (by kernel_rfl) ?_
    refine OpsT.cons (Does.storeAll (T := 24) (b := b1) (n := 32) (xs := (List.replicate 32 (0 : Int))) (ys := y4) (by kernel_rfl) ty24 hI (fun _ => rfl) (by kernel_rfl) hl5 ?_)
    intro w hI
    refine OpsT.pures (r := []) [6, 7] [2, 3, 4] (S' := [(2, .pointer (some ⟨b1, 0, none⟩)), (3, .string y6), (4, .bool y7)]) (by kernel_rfl) ?_
    refine OpsT.done ?_
    refine Qn.then ?_
    refine CodT.ret ?_
    refine Qn.ret_then ?_
    have hL8 := (ldBN ty24 (l := cA (Value.int .u8) y4) (o := 0) (cs := cA (Value.int .u8) y4) (ent_refl _) ((cA_length _ _).trans hl5) (whole _ _ ((cA_length _ _).trans hl5))) w hI
    have hI := hI.drop
    have e := someS h0
    subst e
    refine Qn.keep [2, 3, 4] (S' := [(2, .pointer (some ⟨b1, 0, none⟩)), (3, .string y6), (4, .bool y7)]) (by kernel_rfl) ?_
    exact post_ret (v := .tuple #[.agg (cA (Value.int .u8) y4).toArray, .string y6, .bool y7]) (fun a ha => RunRes.run (vs := [.agg (cA (Value.int .u8) y4).toArray, .string y6, .bool y7]) (.cell (t := 2) (T := 24) (ad := ⟨b1, 0, none⟩) (by kernel_rfl) hL8 (.tmp (t := 3) (by kernel_rfl) (.tmp (t := 4) (by kernel_rfl) .nil))) ha (by kernel_rfl)) ⟨rfl, hl5, hI⟩
  · rw [if_neg hb2] at h0
    refine CodT.no' (b := decide ((a0.size : Int) < 32)) (by kernel_rfl) (by simpa using hb2) ?_
    refine CodT.skip ?_
    refine Qn.then ?_
    refine CodT.seq ?_
    refine CodT.drawI (n := 15) [12] (by kernel_rfl) (by kernel_rfl) hI ?_
    intro w hI
    refine GmT.p' 0 13 (.string a0) (by kernel_rfl) (by kernel_rfl) ?_
    refine GmT.p' 5 18 (.string a0) (by kernel_rfl) (by kernel_rfl) ?_
    obtain ⟨hg9, h0⟩ := guardS h0
    refine GmT.r (i := 1) 2 (by kernel_rfl) (by kernel_rfl) (Yl.sliceStr01 (d := 14) (T := 9) (s := a0) (hi := 32) (by kernel_rfl) Go.Proofs.Try.underlying9 hg9) hI ?_
    obtain ⟨hg10, h0⟩ := guardS h0
    refine GmT.r (i := 6) 2 (by kernel_rfl) (by kernel_rfl) (Yl.sliceStr10 (d := 19) (T := 9) (s := a0) (lo := 32) (by kernel_rfl) Go.Proofs.Try.underlying9 hg10) hI ?_
    obtain ⟨hg11, h0⟩ := guardS h0
    refine GmT.o (i := 2) (by kernel_rfl) (Does.s2b (d := 15) (src := 9) (dst := 37) (s := sx a0 0 32) (by kernel_rfl) Go.Proofs.Try.underlying9 Go.Proofs.Try.underlying37 Go.Proofs.Try.underlying5 (Nat.le_trans hg11 (by decide)) hI ?_)
    intro A12 cp13 w hI
    have hC := hI
    have hC := hC.drop
    refine ⟨fun _ _ => hC, ?_⟩
    obtain ⟨hg14, h0⟩ := guardS h0
    obtain ⟨g15, hA16, hr17⟩ := ownS_all hI (by rw [hg14]; decide)
    refine GmT.o (i := 3) (by kernel_rfl) (Does.yi (Yl.arrPtr' (d := 16) (T := 24) (ad := ⟨g15, 0, none⟩) (c := cp13) (by kernel_rfl) Go.Proofs.Try.underlying24 hg14 hA16) hI ?_)
    refine ⟨fun _ h => h, ?_⟩
    refine GmT.o (i := 4) (by kernel_rfl) (Does.yi (Yl.load (d := 17) (T := 24) (v := .agg (cA (Value.int .u8) (byts (sx a0 0 32))).toArray) (by kernel_rfl) (ldRN ty24 (cs := cA (Value.int .u8) (byts (sx a0 0 32))) 0 (fun w hC => by rw [← flat_cI]; exact (fun w hC => hr17 w0 w _ hC) w hC) ((cA_length _ _).trans hg14) (whole _ _ ((cA_length _ _).trans hg14)))) hI ?_)
    refine ⟨fun _ h => h, ?_⟩
    refine GmT.o (i := 7) (by kernel_rfl) (Does.yi (Yl.buildB (d := 20) (T := 77) (ps := [(0, .agg (cA (Value.int .u8) (byts (sx a0 0 32))).toArray), (1, .string (sx a0 32 (a0.size : Int))), (2, .bool true)]) (cells := (c_WireGot_api_Digest (WireGot_api_Digest.mk (byts (sx a0 0 32)) (sx a0 32 (a0.size : Int)) true)).toArray) (by kernel_rfl) ((built_all (places := [(0, 32), (32, 1), (33, 1)]) (lens := [32, 1, 1]) (zs := [cA (Value.int .u8) (List.replicate 32 (0 : Int)), ([.string (⟨#[]⟩ : ByteArray)] : List Value), ([.bool false] : List Value)]) (fun _ => by kernel_rfl) (by kernel_rfl) [(0, .agg (cA (Value.int .u8) (byts (sx a0 0 32))).toArray, cA (Value.int .u8) (byts (sx a0 0 32))), (1, .string (sx a0 32 (a0.size : Int)), ([.string (sx a0 32 (a0.size : Int))] : List Value)), (2, .bool true, ([.bool true] : List Value))] (List.forall_mem_cons.2 ⟨⟨rfl, congrArg some ((cA_length _ _).trans hg14).symm, congrArg (fun n => some (0, n)) ((cA_length _ _).trans hg14).symm⟩, (List.forall_mem_cons.2 ⟨⟨rfl, rfl, rfl⟩, (List.forall_mem_cons.2 ⟨⟨rfl, rfl, rfl⟩, (fun _ h => by cases h)⟩)⟩)⟩)).trans (by first | rfl | simp [c_WireGot_api_Digest]))) hI ?_)
    refine ⟨fun _ h => h, ?_⟩
    obtain ⟨⟨y19, y21, y22⟩, hc18, h0⟩ := bindS h0
    try dsimp only at h0
    refine GmT.o (i := 8) (by kernel_rfl) (Does.call (d := some 21) (n := 27) (vs := [.agg (c_WireGot_api_Digest (WireGot_api_Digest.mk (byts (sx a0 0 32)) (sx a0 32 (a0.size : Int)) true)).toArray]) (by kernel_rfl) en27 (c27 w0 w _ _ hI hT (WireGot_api_Digest.mk (byts (sx a0 0 32)) (sx a0 32 (a0.size : Int)) true) hg14 _ hc18) ?_)
    rintro e w ⟨rfl, hl20, hI⟩
    refine ⟨_, rfl, ?_⟩
    have hC := hI
    have hC := hC.drop
    refine ⟨fun _ _ => hC, ?_⟩
    refine GmT.p' 9 22 (.agg (cA (Value.int .u8) y19).toArray) (by kernel_rfl) (by kernel_rfl) ?_
    refine GmT.p' 10 23 (.string y21) (by kernel_rfl) (by kernel_rfl) ?_
    refine GmT.p' 11 24 (.bool y22) (by kernel_rfl) (by kernel_rfl) ?_
    have hI := hI.mono (pick2 _ _ _)
    refine GmT.o (i := 12) (by kernel_rfl) (Does.storeAll (T := 24) (b := b1) (n := 32) (xs := (List.replicate 32 (0 : Int))) (ys := y19) (by kernel_rfl) ty24 hI (fun _ => rfl) (by kernel_rfl) hl20 ?_)
    intro w hI
    refine ⟨fun h => absurd h (by decide), ?_⟩
    refine GmT.p' 13 3 (.string y21) (by kernel_rfl) (by kernel_rfl) ?_
    refine GmT.p' 14 4 (.bool y22) (by kernel_rfl) (by kernel_rfl) ?_
    refine GmT.done (by kernel_rfl) ?_
    refine Qn.then ?_
    refine CodT.ret ?_
    have hL23 := (ldBN ty24 (l := cA (Value.int .u8) y19) (o := 0) (cs := cA (Value.int .u8) y19) (ent_refl _) ((cA_length _ _).trans hl20) (whole _ _ ((cA_length _ _).trans hl20))) w hI
    have hI := hI.drop
    have hI := hI.drop
    have e := someS h0
    subst e
    refine Qn.keep [2, 3, 4] (S' := [(2, .pointer (some ⟨b1, 0, none⟩)), (3, .string y21), (4, .bool y22)]) (by kernel_rfl) ?_
    exact post_ret (v := .tuple #[.agg (cA (Value.int .u8) y19).toArray, .string y21, .bool y22]) (fun a ha => RunRes.run (vs := [.agg (cA (Value.int .u8) y19).toArray, .string y21, .bool y22]) (.cell (t := 2) (T := 24) (ad := ⟨b1, 0, none⟩) (by kernel_rfl) hL23 (.tmp (t := 3) (by kernel_rfl) (.tmp (t := 4) (by kernel_rfl) .nil))) ha (by kernel_rfl)) ⟨rfl, hl20, hI⟩
set_option maxRecDepth 100000 in
set_option maxHeartbeats 4000000 in
/-- cenotaph/event.get -/
theorem c14 (w0 w : World) (Z : Hp) (A : HP) (hI : Inv w0 Z w A) (hT : Tabs Z) (a0 : Dyn43) (a1 : ByteArray) (r : (Dyn43 × ByteArray × Bool)) (h0 : event_get a0 a1 = some r) :
    Calls prog 14 #[dynV43 a0, .string a1] w (fun e w' => e = .returned (.tuple #[dynV43 r.1, .string r.2.1, .bool r.2.2]) ∧ Inv w0 Z w' A) := by
  have e4 := calls_intro (R := (fun e w' => e = .returned (.tuple #[dynV43 r.1, .string r.2.1, .bool r.2.2]) ∧ Inv w0 Z w' A)) (w := w) (args := [dynV43 a0, .string a1]) (fn := Go.Proofs.Try.f14) 53 Go.Proofs.Try.func14 (by rfl) Go.Proofs.Try.ntmps14 (by kernel_rfl)
  refine e4 ?_
  clear e4
  unfold event_get at h0
  refine CodT.seq ?_
  refine CodT.regionL [0, 1, 2] (by kernel_rfl) ?_
  refine OpsT.pures (r := []) [0, 1, 2] [0, 1] (S' := [(0, dynV43 a0), (1, .string a1)]) (by kernel_rfl) ?_
  refine OpsT.done ?_
  refine Qn.then ?_
  obtain ⟨r1, h1, h0⟩ := bindS h0
  refine CodT.meet (fun a w => .inr () = r1 ∧ Fr 53 [(1, .string a1)] a ∧ Inv w0 Z w A) ?_ ?_
  ·
    refine CodT.seq ?_
    refine CodT.regionL [0] (by kernel_rfl) ?_
    refine OpsT.pures (r := []) [0] [1, 16] (S' := [(1, .string a1), (16, dynV43 a0)]) (by kernel_rfl) ?_
    refine OpsT.done ?_
    refine Qn.then ?_
    refine CodT.block ?_
    refine CodT.seq ?_
    refine CodT.regionL [0, 1, 2] (by kernel_rfl) ?_
    rcases hd1 : a0 with _ | z2 | z3 | z4
    ·
      simp only [hd1] at h1
      refine OpsT.keep [1, 16] (S' := [(1, .string a1), (16, .nilIface)]) (by (try simp only [hd1]); kernel_rfl) ?_
      refine OpsT.pures (r := []) [0, 1, 2] [1, 16, 18] (S' := [(1, .string a1), (16, .nilIface), (18, .bool false)]) (by kernel_rfl) ?_
      refine OpsT.done ?_
      refine Qn.then ?_
      refine CodT.no (by kernel_rfl) ?_
      refine CodT.seq ?_
      refine CodT.regionL [0, 1, 2] (by kernel_rfl) ?_
      refine OpsT.pures (r := []) [0, 1, 2] [1, 31] (S' := [(1, .string a1), (31, .bool false)]) (by kernel_rfl) ?_
      refine OpsT.done ?_
      refine Qn.then ?_
      refine CodT.no (by kernel_rfl) ?_
      refine CodT.skip ?_
      refine Qn.block_normal ?_
      have e := someS h1
      subst e
      exact Qn.thenJ fun a ha => ⟨rfl, ha.keep [1] (by kernel_rfl), hI⟩
    ·
      simp only [hd1] at h1
      refine OpsT.keep [1, 16] (S' := [(1, .string a1), (16, .iface 53 (.int .i64 z2))]) (by (try simp only [hd1]); kernel_rfl) ?_
      refine OpsT.pures (r := []) [0, 1, 2] [1, 16, 18] (S' := [(1, .string a1), (16, .iface 53 (.int .i64 z2)), (18, .bool false)]) (by kernel_rfl) ?_
      refine OpsT.done ?_
      refine Qn.then ?_
      refine CodT.no (by kernel_rfl) ?_
      refine CodT.seq ?_
      refine CodT.regionL [0, 1, 2] (by kernel_rfl) ?_
      refine OpsT.pures (r := []) [0, 1, 2] [1, 31] (S' := [(1, .string a1), (31, .bool false)]) (by kernel_rfl) ?_
      refine OpsT.done ?_
      refine Qn.then ?_
      refine CodT.no (by kernel_rfl) ?_
      refine CodT.skip ?_
      refine Qn.block_normal ?_
      have e := someS h1
      subst e
      exact Qn.thenJ fun a ha => ⟨rfl, ha.keep [1] (by kernel_rfl), hI⟩
    ·
      simp only [hd1] at h1
      refine OpsT.keep [1, 16] (S' := [(1, .string a1), (16, .iface 54 (.string z3))]) (by (try simp only [hd1]); kernel_rfl) ?_
      refine OpsT.pures (r := []) [0, 1, 2] [1, 16, 18] (S' := [(1, .string a1), (16, .iface 54 (.string z3)), (18, .bool true)]) (by kernel_rfl) ?_
      refine OpsT.done ?_
      refine Qn.then ?_
      refine CodT.yes (by kernel_rfl) ?_
      refine CodT.seq ?_
      refine CodT.regionL [0, 1, 2, 3, 4, 5, 6, 7, 8] (by kernel_rfl) ?_
      refine OpsT.pures (r := [1, 2, 3, 4, 5, 6, 7, 8]) [0] [21] (S' := [(21, .string a1)]) (by kernel_rfl) ?_
      obtain ⟨⟨y6, y7, y8⟩, hc5, h1⟩ := bindS h1
      try dsimp only at h1
      refine OpsT.cons (Does.call (d := some 22) (n := 20) (vs := [.string a1, .int .i64 100]) (by kernel_rfl) en20 (c20 w0 w _ _ hI hT a1 100 _ hc5) ?_)
      rintro e w ⟨rfl, hI⟩
      refine ⟨_, rfl, ?_⟩
      refine OpsT.pures (r := []) [2, 3, 4, 5, 6, 7, 8] [7, 8, 9] (S' := [(7, .string y6), (8, .string y7), (9, .bool y8)]) (by kernel_rfl) ?_
      refine OpsT.done ?_
      refine Qn.then ?_
      refine CodT.seq ?_
      refine CodT.regionL [0, 1, 2, 3, 4, 5, 6] (by kernel_rfl) ?_
      refine OpsT.pures (r := []) [0, 1, 2, 3, 4, 5, 6] [4, 5, 6] (S' := [(4, .iface 54 (.string y6)), (5, .string y7), (6, .bool y8)]) (by kernel_rfl) ?_
      refine OpsT.done ?_
      refine Qn.then ?_
      refine CodT.ret ?_
      refine Qn.block_ret ?_
      refine Qn.ret_then ?_
      have e := someS h1
      subst e
      try dsimp only at h0
      have e := someS h0
      subst e
      refine Qn.keep [4, 5, 6] (S' := [(4, .iface 54 (.string y6)), (5, .string y7), (6, .bool y8)]) (by kernel_rfl) ?_
      exact post_ret (v := .tuple #[.iface 54 (.string y6), .string y7, .bool y8]) (fun a ha => RunRes.run (vs := [.iface 54 (.string y6), .string y7, .bool y8]) (.tmp (t := 4) (by kernel_rfl) (.tmp (t := 5) (by kernel_rfl) (.tmp (t := 6) (by kernel_rfl) .nil))) ha (by kernel_rfl)) ⟨rfl, hI⟩
    ·
      simp only [hd1] at h1
      obtain ⟨hg9, h1⟩ := guardS h1
      refine OpsT.keep [1, 16] (S' := [(1, .string a1), (16, .iface 60 (.agg (cA (Value.int .u8) z4).toArray))]) (by (try simp only [hd1]); kernel_rfl) ?_
      refine OpsT.pures (r := []) [0, 1, 2] [1, 16, 18] (S' := [(1, .string a1), (16, .iface 60 (.agg (cA (Value.int .u8) z4).toArray)), (18, .bool false)]) (by kernel_rfl) ?_
      refine OpsT.done ?_
      refine Qn.then ?_
      refine CodT.no (by kernel_rfl) ?_
      refine CodT.seq ?_
      refine CodT.regionL [0, 1, 2] (by kernel_rfl) ?_
      refine OpsT.pures (r := []) [0, 1, 2] [1, 31] (S' := [(1, .string a1), (31, .bool true)]) (by kernel_rfl) ?_
      refine OpsT.done ?_
      refine Qn.then ?_
      refine CodT.yes (by kernel_rfl) ?_
      refine CodT.seq ?_
      refine CodT.regionL [0, 1, 2, 3, 4, 5, 6, 7, 8, 9] (by kernel_rfl) ?_
      refine OpsT.pures (r := [1, 2, 3, 4, 5, 6, 7, 8, 9]) [0] [34] (S' := [(34, .string a1)]) (by kernel_rfl) ?_
      obtain ⟨⟨y11, y13, y14⟩, hc10, h1⟩ := bindS h1
      try dsimp only at h1
      refine OpsT.cons (Does.call (d := some 35) (n := 21) (vs := [.string a1]) (by kernel_rfl) en21 (c21 w0 w _ _ hI hT a1 _ hc10) ?_)
      rintro e w ⟨rfl, hl12, hI⟩
      refine ⟨_, rfl, ?_⟩
      refine OpsT.pures (r := [6, 7, 8, 9]) [2, 3, 4, 5] [36, 37, 38] (S' := [(36, .agg (cA (Value.int .u8) y11).toArray), (37, .string y13), (38, .bool y14)]) (by kernel_rfl) ?_
      refine OpsT.cons (Does.allocL (d := 10) (T := 24) (cA (Value.int .u8) (List.replicate 32 (0 : Int))) (by kernel_rfl) ty24 hI (by kernel_rfl) ?_)
      intro b15 w hI
      refine OpsT.cons (Does.storeAll (T := 24) (b := b15) (n := 32) (xs := (List.replicate 32 (0 : Int))) (ys := y11) (by kernel_rfl) ty24 hI (fun _ => rfl) (by kernel_rfl) hl12 ?_)
      intro w hI
      refine OpsT.pures (r := []) [8, 9] [10, 11, 12] (S' := [(10, .pointer (some ⟨b15, 0, none⟩)), (11, .string y13), (12, .bool y14)]) (by kernel_rfl) ?_
      refine OpsT.done ?_
      refine Qn.then ?_
      refine CodT.seq ?_
      refine CodT.regionL [0, 1, 2, 3, 4, 5, 6] (by kernel_rfl) ?_
      refine OpsT.cons (Does.yi (Yl.load (d := 39) (T := 24) (v := .agg (cA (Value.int .u8) y11).toArray) (by kernel_rfl) (ldBN ty24 (l := cA (Value.int .u8) y11) (o := 0) (cs := cA (Value.int .u8) y11) (ent_refl _) ((cA_length _ _).trans hl12) (whole _ _ ((cA_length _ _).trans hl12)))) hI ?_)
      refine OpsT.pures (r := []) [1, 2, 3, 4, 5, 6] [4, 5, 6] (S' := [(4, .iface 60 (.agg (cA (Value.int .u8) y11).toArray)), (5, .string y13), (6, .bool y14)]) (by kernel_rfl) ?_
      refine OpsT.done ?_
      refine Qn.then ?_
      refine CodT.ret ?_
      refine Qn.block_ret ?_
      refine Qn.ret_then ?_
      have hI := hI.drop
      have e := someS h1
      subst e
      try dsimp only at h0
      have e := someS h0
      subst e
      refine Qn.keep [4, 5, 6] (S' := [(4, .iface 60 (.agg (cA (Value.int .u8) y11).toArray)), (5, .string y13), (6, .bool y14)]) (by kernel_rfl) ?_
      exact post_ret (v := .tuple #[.iface 60 (.agg (cA (Value.int .u8) y11).toArray), .string y13, .bool y14]) (fun a ha => RunRes.run (vs := [.iface 60 (.agg (cA (Value.int .u8) y11).toArray), .string y13, .bool y14]) (.tmp (t := 4) (by kernel_rfl) (.tmp (t := 5) (by kernel_rfl) (.tmp (t := 6) (by kernel_rfl) .nil))) ha (by kernel_rfl)) ⟨rfl, hI⟩
  ·
    rintro a w ⟨rfl, ha, hI⟩
    try dsimp only at h0
    refine CodT.of ?_ ha
    refine CodT.seq ?_
    refine CodT.regionL [0, 1, 2, 3, 4, 5, 6, 7, 8] (by kernel_rfl) ?_
    refine OpsT.pures (r := [1, 2, 3, 4, 5, 6, 7, 8]) [0] [44] (S' := [(44, .string a1)]) (by kernel_rfl) ?_
    obtain ⟨⟨y17, y18, y19⟩, hc16, h0⟩ := bindS h0
    try dsimp only at h0
    refine OpsT.cons (Does.call (d := some 45) (n := 13) (vs := [.string a1]) (by kernel_rfl) en13 (c13 w0 w _ _ hI hT a1 _ hc16) ?_)
    rintro e w ⟨rfl, hI⟩
    refine ⟨_, rfl, ?_⟩
    refine OpsT.pures (r := []) [2, 3, 4, 5, 6, 7, 8] [13, 14, 15] (S' := [(13, .int .i64 y17), (14, .string y18), (15, .bool y19)]) (by kernel_rfl) ?_
    refine OpsT.done ?_
    refine Qn.then ?_
    refine CodT.seq ?_
    refine CodT.regionL [0, 1, 2, 3, 4, 5, 6] (by kernel_rfl) ?_
    refine OpsT.pures (r := []) [0, 1, 2, 3, 4, 5, 6] [4, 5, 6] (S' := [(4, .iface 53 (.int .i64 y17)), (5, .string y18), (6, .bool y19)]) (by kernel_rfl) ?_
    refine OpsT.done ?_
    refine Qn.then ?_
    refine CodT.ret ?_
    have e := someS h0
    subst e
    refine Qn.keep [4, 5, 6] (S' := [(4, .iface 53 (.int .i64 y17)), (5, .string y18), (6, .bool y19)]) (by kernel_rfl) ?_
    exact post_ret (v := .tuple #[.iface 53 (.int .i64 y17), .string y18, .bool y19]) (fun a ha => RunRes.run (vs := [.iface 53 (.int .i64 y17), .string y18, .bool y19]) (.tmp (t := 4) (by kernel_rfl) (.tmp (t := 5) (by kernel_rfl) (.tmp (t := 6) (by kernel_rfl) .nil))) ha (by kernel_rfl)) ⟨rfl, hI⟩
set_option maxRecDepth 100000 in
set_option maxHeartbeats 4000000 in
/-- cenotaph/event.Get -/
theorem c7 (w0 w : World) (Z : Hp) (A : HP) (hI : Inv w0 Z w A) (hT : Tabs Z) (a0 : ByteArray) (r : (ApiEvent × ByteArray × Bool)) (h0 : event_Get a0 = some r) :
    Calls prog 7 #[.string a0] w (fun e w' => e = .returned (.tuple #[.agg (c_ApiEvent r.1).toArray, .string r.2.1, .bool r.2.2]) ∧ r.1.Sum.length = 32 ∧ Inv w0 Z w' A) := by
  have e4 := calls_intro (R := (fun e w' => e = .returned (.tuple #[.agg (c_ApiEvent r.1).toArray, .string r.2.1, .bool r.2.2]) ∧ r.1.Sum.length = 32 ∧ Inv w0 Z w' A)) (w := w) (args := [.string a0]) (fn := Go.Proofs.Try.f7) 62 Go.Proofs.Try.func7 (by rfl) Go.Proofs.Try.ntmps7 (by kernel_rfl)
  refine e4 ?_
  clear e4
  unfold event_Get at h0
  refine CodT.seq ?_
  refine CodT.regionL [0, 1, 2] (by kernel_rfl) ?_
  refine OpsT.cons (Does.allocL (d := 2) (T := 26) (c_ApiEvent (ApiEvent.mk 0 0 (⟨#[]⟩ : ByteArray) 0 0 (List.replicate 32 (0 : Int)))) (by kernel_rfl) ty26 hI (by kernel_rfl) ?_)
  intro b1 w hI
  refine OpsT.pures (r := []) [1, 2] [0, 2] (S' := [(0, .string a0), (2, .pointer (some ⟨b1, 0, none⟩))]) (by kernel_rfl) ?_
  refine OpsT.done ?_
  refine Qn.then ?_
  refine CodT.seq ?_
  refine CodT.regionL [0, 1, 2, 3, 4, 5, 6, 7, 8] (by kernel_rfl) ?_
  refine OpsT.pures (r := [1, 2, 3, 4, 5, 6, 7, 8]) [0] [2, 13] (S' := [(2, .pointer (some ⟨b1, 0, none⟩)), (13, .string a0)]) (by kernel_rfl) ?_
  obtain ⟨⟨y3, y4, y5⟩, hc2, h0⟩ := bindS h0
  try dsimp only at h0
  refine OpsT.cons (Does.call (d := some 14) (n := 13) (vs := [.string a0]) (by kernel_rfl) en13 (c13 w0 w _ _ hI hT a0 _ hc2) ?_)
  rintro e w ⟨rfl, hI⟩
  refine ⟨_, rfl, ?_⟩
  refine OpsT.pures (r := []) [2, 3, 4, 5, 6, 7, 8] [2, 5, 6, 7] (S' := [(2, .pointer (some ⟨b1, 0, none⟩)), (5, .int .i64 y3), (6, .string y4), (7, .bool y5)]) (by kernel_rfl) ?_
  refine OpsT.done ?_
  refine Qn.then ?_
  refine CodT.seq ?_
  obtain ⟨r1, h1, h0⟩ := bindS h0
  refine CodT.meet (fun a w => ∃ (x6 : Bool), x6 = r1 ∧ Fr 62 [(2, .pointer (some ⟨b1, 0, none⟩)), (5, .int .i64 y3), (6, .string y4), (25, .bool x6)] a ∧ Inv w0 Z w (star (pt b1 (.cells (c_ApiEvent (ApiEvent.mk 0 0 (⟨#[]⟩ : ByteArray) 0 0 (List.replicate 32 (0 : Int)))).toArray 26 (0, 0))) A)) ?_ ?_
  ·
    refine CodT.regionL [0, 1, 2, 3, 4, 5, 6, 7] (by kernel_rfl) ?_
    refine OpsT.pures (r := [3, 4, 5, 6, 7]) [0, 1, 2] [2, 5, 6, 20] (S' := [(2, .pointer (some ⟨b1, 0, none⟩)), (5, .int .i64 y3), (6, .string y4), (20, .bool (!y5))]) (by kernel_rfl) ?_
    by_cases hb7 : (!y5) = true
    · rw [if_pos hb7] at h1
      refine OpsT.keep [2, 5, 6, 20] (S' := [(2, .pointer (some ⟨b1, 0, none⟩)), (5, .int .i64 y3), (6, .string y4), (20, .bool true)]) (by (try simp only [hb7]); kernel_rfl) ?_
      refine OpsT.pures (r := []) [3, 4, 5, 6, 7] [2, 5, 6, 25] (S' := [(2, .pointer (some ⟨b1, 0, none⟩)), (5, .int .i64 y3), (6, .string y4), (25, .bool true)]) (by kernel_rfl) ?_
      refine OpsT.done ?_
      have e := someS h1
      subst e
      exact Qn.thenJ fun a ha => ⟨true, rfl, ha.keep [2, 5, 6, 25] (by kernel_rfl), hI⟩
    · rw [if_neg hb7] at h1
      have hb7 : (!y5) = false := by simpa using hb7
      refine OpsT.keep [2, 5, 6, 20] (S' := [(2, .pointer (some ⟨b1, 0, none⟩)), (5, .int .i64 y3), (6, .string y4), (20, .bool false)]) (by (try simp only [hb7]); kernel_rfl) ?_
      refine OpsT.pures (r := [4, 5, 6, 7]) [3] [2, 5, 6, 20, 21] (S' := [(2, .pointer (some ⟨b1, 0, none⟩)), (5, .int .i64 y3), (6, .string y4), (20, .bool false), (21, .int .i64 y3)]) (by kernel_rfl) ?_
      obtain ⟨y9, hc8, h1⟩ := bindS h1
      try dsimp only at h1
      refine OpsT.cons (Does.call (d := some 22) (n := 12) (vs := []) (by kernel_rfl) en12 (c12 w0 w _ _ hI hT _ hc8) ?_)
      rintro e w ⟨rfl, hl10, hI⟩
      refine ⟨_, rfl, ?_⟩
      refine OpsT.pures (r := []) [5, 6, 7] [2, 5, 6, 25] (S' := [(2, .pointer (some ⟨b1, 0, none⟩)), (5, .int .i64 y3), (6, .string y4), (25, .bool (decide (y3 ≥ 8)))]) (by kernel_rfl) ?_
      refine OpsT.done ?_
      have e := someS h1
      subst e
      exact Qn.thenJ fun a ha => ⟨decide (y3 ≥ 8), rfl, ha.keep [2, 5, 6, 25] (by kernel_rfl), hI⟩
  ·
    rintro a w ⟨x6, rfl, ha, hI⟩
    try dsimp only at h0
    refine CodT.of ?_ ha
    by_cases hb11 : x6 = true
    · rw [if_pos hb11] at h0
      refine CodT.yes' (b := x6) (by kernel_rfl) hb11 ?_
      refine CodT.seq ?_
      refine CodT.regionL [0, 1, 2, 3] (by kernel_rfl) ?_
      refine OpsT.pures (r := [1, 2, 3]) [0] [2, 26] (S' := [(2, .pointer (some ⟨b1, 0, none⟩)), (26, .agg (c_ApiEvent (ApiEvent.mk 0 0 (⟨#[]⟩ : ByteArray) 0 0 (List.replicate 32 (0 : Int)))).toArray)]) (by kernel_rfl) ?_
      refine OpsT.cons (Does.storeLit (T := 26) (b := b1) (o := 0) (v := .agg (c_ApiEvent (ApiEvent.mk 0 0 (⟨#[]⟩ : ByteArray) 0 0 (List.replicate 32 (0 : Int)))).toArray) (l := c_ApiEvent (ApiEvent.mk 0 0 (⟨#[]⟩ : ByteArray) 0 0 (List.replicate 32 (0 : Int)))) (vs := c_ApiEvent (ApiEvent.mk 0 0 (⟨#[]⟩ : ByteArray) 0 0 (List.replicate 32 (0 : Int)))) (L' := c_ApiEvent (ApiEvent.mk 0 0 (⟨#[]⟩ : ByteArray) 0 0 (List.replicate 32 (0 : Int)))) (by kernel_rfl) ty26 hI (by kernel_rfl) (len_ApiEvent _ (by kernel_rfl)) (by rw [(len_ApiEvent _ (by kernel_rfl))]; kernel_rfl) (ones_app _ _ (by kernel_rfl) (ones_cA _)) (lset_all _ _ (Eq.trans (len_ApiEvent _ (by kernel_rfl)) (Eq.symm (len_ApiEvent _ (by kernel_rfl))))) ?_)
      intro w hI
      refine OpsT.pures (r := []) [2, 3] [2, 3, 4] (S' := [(2, .pointer (some ⟨b1, 0, none⟩)), (3, .string (⟨#[]⟩ : ByteArray)), (4, .bool false)]) (by kernel_rfl) ?_
      refine OpsT.done ?_
      refine Qn.then ?_
      refine CodT.ret ?_
      refine Qn.ret_then ?_
      have hL12 := (ldBN ty26 (l := c_ApiEvent (ApiEvent.mk 0 0 (⟨#[]⟩ : ByteArray) 0 0 (List.replicate 32 (0 : Int)))) (o := 0) (cs := c_ApiEvent (ApiEvent.mk 0 0 (⟨#[]⟩ : ByteArray) 0 0 (List.replicate 32 (0 : Int)))) (ent_refl _) (len_ApiEvent _ (by kernel_rfl)) (whole _ _ (len_ApiEvent _ (by kernel_rfl)))) w hI
      have hI := hI.drop
      have e := someS h0
      subst e
      refine Qn.keep [2, 3, 4] (S' := [(2, .pointer (some ⟨b1, 0, none⟩)), (3, .string (⟨#[]⟩ : ByteArray)), (4, .bool false)]) (by kernel_rfl) ?_
      exact post_ret (v := .tuple #[.agg (c_ApiEvent (ApiEvent.mk 0 0 (⟨#[]⟩ : ByteArray) 0 0 (List.replicate 32 (0 : Int)))).toArray, .string (⟨#[]⟩ : ByteArray), .bool false]) (fun a ha => RunRes.run (vs := [.agg (c_ApiEvent (ApiEvent.mk 0 0 (⟨#[]⟩ : ByteArray) 0 0 (List.replicate 32 (0 : Int)))).toArray, .string (⟨#[]⟩ : ByteArray), .bool false]) (.cell (t := 2) (T := 26) (ad := ⟨b1, 0, none⟩) (by kernel_rfl) hL12 (.tmp (t := 3) (by kernel_rfl) (.tmp (t := 4) (by kernel_rfl) .nil))) ha (by kernel_rfl)) ⟨rfl, (by kernel_rfl), hI⟩
    · rw [if_neg hb11] at h0
      refine CodT.no' (b := x6) (by kernel_rfl) (by simpa using hb11) ?_
      refine CodT.skip ?_
      refine Qn.then ?_
      refine CodT.seq ?_
      refine CodT.regionL [0, 1] (by kernel_rfl) ?_
      refine OpsT.pures (r := []) [0, 1] [2, 6, 8] (S' := [(2, .pointer (some ⟨b1, 0, none⟩)), (6, .string y4), (8, .int .i64 y3)]) (by kernel_rfl) ?_
      refine OpsT.done ?_
      refine Qn.then ?_
      refine CodT.seq ?_
      refine CodT.regionL [0, 1, 2, 3] (by kernel_rfl) ?_
      refine OpsT.pures (r := [2, 3]) [0, 1] [2, 6, 8, 29] (S' := [(2, .pointer (some ⟨b1, 0, none⟩)), (6, .string y4), (8, .int .i64 y3), (29, .agg (c_ApiEvent (ApiEvent.mk y3 0 (⟨#[]⟩ : ByteArray) 0 0 (List.replicate 32 (0 : Int)))).toArray)]) (by kernel_rfl) ?_
      obtain ⟨y14, hc13, h0⟩ := bindS h0
      try dsimp only at h0
      refine OpsT.cons (Does.call (d := some 30) (n := 11) (vs := [.agg (c_ApiEvent (ApiEvent.mk y3 0 (⟨#[]⟩ : ByteArray) 0 0 (List.replicate 32 (0 : Int)))).toArray]) (by kernel_rfl) en11 (c11 w0 w _ _ hI hT (ApiEvent.mk y3 0 (⟨#[]⟩ : ByteArray) 0 0 (List.replicate 32 (0 : Int))) (by kernel_rfl) _ hc13) ?_)
      rintro e w ⟨A15, cp16, rfl, hI⟩
      refine ⟨_, rfl, ?_⟩
      refine OpsT.pures (r := []) [3] [2, 6, 8, 9] (S' := [(2, .pointer (some ⟨b1, 0, none⟩)), (6, .string y4), (8, .int .i64 y3), (9, .slice A15 y14.length cp16)]) (by kernel_rfl) ?_
      refine OpsT.done ?_
      refine Qn.then ?_
      refine CodT.seq ?_
      refine CodT.seq ?_
      refine CodT.regionL [0, 1, 2] (by kernel_rfl) ?_
      refine OpsT.pures (r := []) [0, 1, 2] [2, 6, 8, 9, 32, 33] (S' := [(2, .pointer (some ⟨b1, 0, none⟩)), (6, .string y4), (8, .int .i64 y3), (9, .slice A15 y14.length cp16), (32, .int .i64 (y14.length : Int)), (33, .int .i64 0)]) (by kernel_rfl) ?_
      refine OpsT.done ?_
      refine Qn.then ?_
      obtain ⟨r1, h1, h0⟩ := bindS h0
      refine CodT.meet1 (fun a w => ∃ (x17 : ByteArray) (x18 : (List Dyn43)) (A19 : Option Addr) (cp20 : Nat), .inr (x17, x18) = r1 ∧ Fr 62 [(2, .pointer (some ⟨b1, 0, none⟩)), (6, .string x17), (8, .int .i64 y3), (9, .slice A19 x18.length cp20)] a ∧ Inv w0 Z w (star (ownS 43 cD43 1 A19 cp20 x18) (star (pt b1 (.cells (c_ApiEvent (ApiEvent.mk 0 0 (⟨#[]⟩ : ByteArray) 0 0 (List.replicate 32 (0 : Int)))).toArray 26 (0, 0))) A))) ?_ ?_
      ·
        refine CodT.block ?_
        refine (fun a ha => wp_loopN (fun k a w => ∃ (x21 : ByteArray) (x22 : (List Dyn43)) (x25 : Int) (A23 : Option Addr) (cp24 : Nat), event_Get.l0 y14 k x21 x22 x25 = some r1 ∧ Fr 62 [(2, .pointer (some ⟨b1, 0, none⟩)), (6, .string x21), (8, .int .i64 y3), (9, .slice A23 x22.length cp24), (32, .int .i64 (y14.length : Int)), (33, .int .i64 x25)] a ∧ Inv w0 Z w (star (ownS 43 cD43 1 A23 cp24 x22) (star (pt b1 (.cells (c_ApiEvent (ApiEvent.mk 0 0 (⟨#[]⟩ : ByteArray) 0 0 (List.replicate 32 (0 : Int)))).toArray 26 (0, 0))) A))) ?_ FU a w ⟨y4, y14, 0, A15, cp16, h1, ha.keep [2, 6, 8, 9, 32, 33] (by kernel_rfl), hI⟩)
        clear h1 hI
        rintro k a w ⟨x21, x22, x25, A23, cp24, h1, ha, hI⟩
        rcases k with _ | k
        · cases h1
        simp only [event_Get.l0] at h1
        refine CodT.of ?_ ha
        refine CodT.seq ?_
        refine CodT.regionL [0] (by kernel_rfl) ?_
        refine OpsT.pures (r := []) [0] [2, 6, 8, 9, 32, 33, 34] (S' := [(2, .pointer (some ⟨b1, 0, none⟩)), (6, .string x21), (8, .int .i64 y3), (9, .slice A23 x22.length cp24), (32, .int .i64 (y14.length : Int)), (33, .int .i64 x25), (34, .bool (decide (x25 < (y14.length : Int))))]) (by kernel_rfl) ?_
        refine OpsT.done ?_
        refine Qn.then ?_
        refine CodT.seq ?_
        by_cases hb26 : (decide (x25 < (y14.length : Int))) = true
        · rw [if_pos hb26] at h1
          refine CodT.yes' (b := decide (x25 < (y14.length : Int))) (by kernel_rfl) hb26 ?_
          refine CodT.skip ?_
          refine Qn.then ?_
          refine CodT.seq ?_
          refine CodT.block ?_
          refine CodT.seq ?_
          refine CodT.regionL [0, 1] (by kernel_rfl) ?_
          refine OpsT.pures (r := []) [0, 1] [2, 6, 8, 9, 10, 32, 33] (S' := [(2, .pointer (some ⟨b1, 0, none⟩)), (6, .string x21), (8, .int .i64 y3), (9, .slice A23 x22.length cp24), (10, .int .i64 x25), (32, .int .i64 (y14.length : Int)), (33, .int .i64 x25)]) (by kernel_rfl) ?_
          refine OpsT.done ?_
          refine Qn.then ?_
          refine CodT.seq ?_
          refine CodT.regionL [0, 1, 2, 3, 4, 5, 6, 7, 8, 9, 10, 11, 12, 13, 14, 15] (by kernel_rfl) ?_
          refine OpsT.pures (r := [4, 5, 6, 7, 8, 9, 10, 11, 12, 13, 14, 15]) [0, 1, 2, 3] [2, 6, 8, 9, 32, 33, 37, 38, 39, 40] (S' := [(2, .pointer (some ⟨b1, 0, none⟩)), (6, .string x21), (8, .int .i64 y3), (9, .slice A23 x22.length cp24), (32, .int .i64 (y14.length : Int)), (33, .int .i64 x25), (37, .slice A23 x22.length cp24), (38, .int .i64 x25), (39, .slice A23 x22.length cp24), (40, .int .i64 x25)]) (by kernel_rfl) ?_
          obtain ⟨hg27, h1⟩ := guardS h1
          obtain ⟨g28, hA29, hr30, hl31⟩ := ownS_get hI hg27.1 hg27.2
          refine OpsT.cons (Does.yi (Yl.indexSlice (d := 41) (T := 40) (cc := cp24) (k := .i64) (j := x25) (g := g28) (o := 0) (by kernel_rfl) Go.Proofs.Try.underlying40 ty43 hA29 hg27.1 hg27.2) hI ?_)
          refine OpsT.cons (Does.yi (Yl.load (d := 42) (T := 43) (v := dynV43 (gt x22 x25)) (by kernel_rfl) (ldR ty43 (v := dynV43 (gt x22 x25)) 0 (fun w hC => hr30 w0 w _ hC) (by kernel_rfl))) hI ?_)
          refine OpsT.pures (r := [7, 8, 9, 10, 11, 12, 13, 14, 15]) [6] [2, 8, 9, 32, 33, 37, 38, 42, 43] (S' := [(2, .pointer (some ⟨b1, 0, none⟩)), (8, .int .i64 y3), (9, .slice A23 x22.length cp24), (32, .int .i64 (y14.length : Int)), (33, .int .i64 x25), (37, .slice A23 x22.length cp24), (38, .int .i64 x25), (42, dynV43 (gt x22 x25)), (43, .string x21)]) (by kernel_rfl) ?_
          obtain ⟨⟨y33, y34, y35⟩, hc32, h1⟩ := bindS h1
          try dsimp only at h1
          refine OpsT.cons (Does.call (d := some 44) (n := 14) (vs := [dynV43 (gt x22 x25), .string x21]) (by kernel_rfl) en14 (c14 w0 w _ _ hI hT (gt x22 x25) x21 _ hc32) ?_)
          rintro e w ⟨rfl, hI⟩
          refine ⟨_, rfl, ?_⟩
          refine OpsT.pures (r := [12, 13, 14, 15]) [8, 9, 10, 11] [2, 8, 9, 32, 33, 37, 38, 45, 46, 47] (S' := [(2, .pointer (some ⟨b1, 0, none⟩)), (8, .int .i64 y3), (9, .slice A23 x22.length cp24), (32, .int .i64 (y14.length : Int)), (33, .int .i64 x25), (37, .slice A23 x22.length cp24), (38, .int .i64 x25), (45, dynV43 y33), (46, .string y34), (47, .bool y35)]) (by kernel_rfl) ?_
          obtain ⟨hg36, h1⟩ := guardS h1
          obtain ⟨g37, hA38, hr39, hl40⟩ := ownS_get hI hg36.1 hg36.2
          refine OpsT.cons (Does.yi (Yl.indexSlice (d := 48) (T := 40) (cc := cp24) (k := .i64) (j := x25) (g := g37) (o := 0) (by kernel_rfl) Go.Proofs.Try.underlying40 ty43 hA38 hg36.1 hg36.2) hI ?_)
          refine OpsT.cons (Does.storeElem (T := 43) (j := x25) (k := 0) (v := dynV43 y33) (vs := ([dynV43 y33] : List Value)) y33 (by kernel_rfl) ty43 hA38 hI hg36.1 hg36.2 (dynC43 _) (by kernel_rfl) (by kernel_rfl) (dynO43 _) (by kernel_rfl) ?_)
          intro w hI
          refine OpsT.keep [2, 8, 9, 32, 33, 37, 38, 45, 46, 47] (S' := [(2, .pointer (some ⟨b1, 0, none⟩)), (8, .int .i64 y3), (9, .slice A23 ((st x22 x25 y33).length) cp24), (32, .int .i64 (y14.length : Int)), (33, .int .i64 x25), (37, .slice A23 ((st x22 x25 y33).length) cp24), (38, .int .i64 x25), (45, dynV43 y33), (46, .string y34), (47, .bool y35)]) (by simp only [st_length]; kernel_rfl) ?_
          refine OpsT.pures (r := []) [14, 15] [2, 6, 7, 8, 9, 32, 33] (S' := [(2, .pointer (some ⟨b1, 0, none⟩)), (6, .string y34), (7, .bool y35), (8, .int .i64 y3), (9, .slice A23 ((st x22 x25 y33).length) cp24), (32, .int .i64 (y14.length : Int)), (33, .int .i64 x25)]) (by kernel_rfl) ?_
          refine OpsT.done ?_
          refine Qn.then ?_
          refine CodT.seq ?_
          refine CodT.regionL [0, 1] (by kernel_rfl) ?_
          refine OpsT.pures (r := []) [0, 1] [2, 6, 8, 9, 32, 33, 50] (S' := [(2, .pointer (some ⟨b1, 0, none⟩)), (6, .string y34), (8, .int .i64 y3), (9, .slice A23 ((st x22 x25 y33).length) cp24), (32, .int .i64 (y14.length : Int)), (33, .int .i64 x25), (50, .bool (!y35))]) (by kernel_rfl) ?_
          refine OpsT.done ?_
          refine Qn.then ?_
          by_cases hb41 : (!y35) = true
          · rw [if_pos hb41] at h1
            refine CodT.yes' (b := !y35) (by kernel_rfl) hb41 ?_
            refine CodT.seq ?_
            refine CodT.regionL [0, 1, 2, 3] (by kernel_rfl) ?_
            refine OpsT.pures (r := [1, 2, 3]) [0] [2, 51] (S' := [(2, .pointer (some ⟨b1, 0, none⟩)), (51, .agg (c_ApiEvent (ApiEvent.mk 0 0 (⟨#[]⟩ : ByteArray) 0 0 (List.replicate 32 (0 : Int)))).toArray)]) (by kernel_rfl) ?_
            have hI := hI.mono (pick2 _ _ _)
            refine OpsT.cons (Does.storeLit (T := 26) (b := b1) (o := 0) (v := .agg (c_ApiEvent (ApiEvent.mk 0 0 (⟨#[]⟩ : ByteArray) 0 0 (List.replicate 32 (0 : Int)))).toArray) (l := c_ApiEvent (ApiEvent.mk 0 0 (⟨#[]⟩ : ByteArray) 0 0 (List.replicate 32 (0 : Int)))) (vs := c_ApiEvent (ApiEvent.mk 0 0 (⟨#[]⟩ : ByteArray) 0 0 (List.replicate 32 (0 : Int)))) (L' := c_ApiEvent (ApiEvent.mk 0 0 (⟨#[]⟩ : ByteArray) 0 0 (List.replicate 32 (0 : Int)))) (by kernel_rfl) ty26 hI (by kernel_rfl) (len_ApiEvent _ (by kernel_rfl)) (by rw [(len_ApiEvent _ (by kernel_rfl))]; kernel_rfl) (ones_app _ _ (by kernel_rfl) (ones_cA _)) (lset_all _ _ (Eq.trans (len_ApiEvent _ (by kernel_rfl)) (Eq.symm (len_ApiEvent _ (by kernel_rfl))))) ?_)
            intro w hI
            refine OpsT.pures (r := []) [2, 3] [2, 3, 4] (S' := [(2, .pointer (some ⟨b1, 0, none⟩)), (3, .string (⟨#[]⟩ : ByteArray)), (4, .bool false)]) (by kernel_rfl) ?_
            refine OpsT.done ?_
            refine Qn.then ?_
            refine CodT.ret ?_
            refine Qn.block_ret ?_
            refine Qn.ret_then ?_
            refine Qn.ret_then ?_
            refine Qn.block_ret ?_
            refine Qn.ret_then ?_
            refine Qn.ret_then ?_
            have hL42 := (ldBN ty26 (l := c_ApiEvent (ApiEvent.mk 0 0 (⟨#[]⟩ : ByteArray) 0 0 (List.replicate 32 (0 : Int)))) (o := 0) (cs := c_ApiEvent (ApiEvent.mk 0 0 (⟨#[]⟩ : ByteArray) 0 0 (List.replicate 32 (0 : Int)))) (ent_refl _) (len_ApiEvent _ (by kernel_rfl)) (whole _ _ (len_ApiEvent _ (by kernel_rfl)))) w hI
            have hI := hI.drop
            have hI := hI.drop
            have e := someS h1
            subst e
            try dsimp only at h0
            have e := someS h0
            subst e
            refine Qn.keep [2, 3, 4] (S' := [(2, .pointer (some ⟨b1, 0, none⟩)), (3, .string (⟨#[]⟩ : ByteArray)), (4, .bool false)]) (by kernel_rfl) ?_
            exact post_ret (v := .tuple #[.agg (c_ApiEvent (ApiEvent.mk 0 0 (⟨#[]⟩ : ByteArray) 0 0 (List.replicate 32 (0 : Int)))).toArray, .string (⟨#[]⟩ : ByteArray), .bool false]) (fun a ha => RunRes.run (vs := [.agg (c_ApiEvent (ApiEvent.mk 0 0 (⟨#[]⟩ : ByteArray) 0 0 (List.replicate 32 (0 : Int)))).toArray, .string (⟨#[]⟩ : ByteArray), .bool false]) (.cell (t := 2) (T := 26) (ad := ⟨b1, 0, none⟩) (by kernel_rfl) hL42 (.tmp (t := 3) (by kernel_rfl) (.tmp (t := 4) (by kernel_rfl) .nil))) ha (by kernel_rfl)) ⟨rfl, (by kernel_rfl), hI⟩
          · rw [if_neg hb41] at h1
            refine CodT.no' (b := !y35) (by kernel_rfl) (by simpa using hb41) ?_
            refine CodT.skip ?_
            refine Qn.block_normal ?_
            refine Qn.then ?_
            refine CodT.regionL [0, 1] (by kernel_rfl) ?_
            refine OpsT.pures (r := []) [0, 1] [2, 6, 8, 9, 32, 33] (S' := [(2, .pointer (some ⟨b1, 0, none⟩)), (6, .string y34), (8, .int .i64 y3), (9, .slice A23 ((st x22 x25 y33).length) cp24), (32, .int .i64 (y14.length : Int)), (33, .int .i64 (wi64 (x25 + 1)))]) (by kernel_rfl) ?_
            refine OpsT.done ?_
            exact Qn.thenJ fun a ha => ⟨k, Nat.lt_succ_self k, y34, st x22 x25 y33, wi64 (x25 + 1), A23, cp24, h1, ha.keep [2, 6, 8, 9, 32, 33] (by kernel_rfl), hI⟩
        · rw [if_neg hb26] at h1
          refine CodT.no' (b := decide (x25 < (y14.length : Int))) (by kernel_rfl) (by simpa using hb26) ?_
          refine CodT.exit ?_
          refine Qn.exit_then ?_
          refine Qn.exit_then ?_
          refine Qn.block ?_
          have e := someS h1
          subst e
          exact Qn.thenJ fun a ha => ⟨x21, x22, A23, cp24, rfl, ha.keep [2, 6, 8, 9] (by kernel_rfl), hI⟩
      ·
        rintro a w ⟨x17, x18, A19, cp20, rfl, ha, hI⟩
        try dsimp only at h0
        refine Qn.of ?_ ha
        refine Qn.then ?_
        refine CodT.seq ?_
        refine CodT.regionL [0, 1, 2, 3, 4] (by kernel_rfl) ?_
        refine OpsT.pures (r := [2, 3, 4]) [0, 1] [2, 6, 53, 54] (S' := [(2, .pointer (some ⟨b1, 0, none⟩)), (6, .string x17), (53, .int .i64 y3), (54, .slice A19 x18.length cp20)]) (by kernel_rfl) ?_
        obtain ⟨Z43, hle44, hr45, hI⟩ := ownS_freeze hI
        obtain ⟨y47, hc46, h0⟩ := bindS h0
        try dsimp only at h0
        refine OpsT.cons (Does.call (d := some 55) (n := 15) (vs := [.int .i64 y3, .slice A19 x18.length cp20]) (by kernel_rfl) en15 (c15 w0 w _ _ hI (hT.mono hle44) y3 A19 cp20 x18 hr45 _ hc46) ?_)
        rintro e w ⟨rfl, hl48, hI⟩
        refine ⟨_, rfl, ?_⟩
        refine OpsT.cons (Does.allocL (d := 11) (T := 26) (c_ApiEvent (ApiEvent.mk 0 0 (⟨#[]⟩ : ByteArray) 0 0 (List.replicate 32 (0 : Int)))) (by kernel_rfl) ty26 hI (by kernel_rfl) ?_)
        intro b49 w hI
        refine OpsT.cons (Does.storeLit (T := 26) (b := b49) (o := 0) (v := .agg (c_ApiEvent y47).toArray) (l := c_ApiEvent (ApiEvent.mk 0 0 (⟨#[]⟩ : ByteArray) 0 0 (List.replicate 32 (0 : Int)))) (vs := c_ApiEvent y47) (L' := c_ApiEvent y47) (by kernel_rfl) ty26 hI (by kernel_rfl) (len_ApiEvent _ hl48) (by rw [(len_ApiEvent _ (by kernel_rfl))]; kernel_rfl) (ones_app _ _ (by kernel_rfl) (ones_cA _)) (lset_all _ _ (Eq.trans (len_ApiEvent _ hl48) (Eq.symm (len_ApiEvent _ (by kernel_rfl))))) ?_)
        intro w hI
        refine OpsT.done ?_
        refine Qn.then ?_
        refine CodT.seq ?_
        refine CodT.seq ?_
        refine CodT.regionL [0, 1, 2] (by kernel_rfl) ?_
        refine OpsT.cons (Does.yi (Yl.load (d := 56) (T := 26) (v := .agg (c_ApiEvent y47).toArray) (by kernel_rfl) (ldBN ty26 (l := c_ApiEvent y47) (o := 0) (cs := c_ApiEvent y47) (ent_refl _) (len_ApiEvent _ hl48) (whole _ _ (len_ApiEvent _ hl48)))) hI ?_)
        obtain ⟨y51, hc50, h0⟩ := bindS h0
        try dsimp only at h0
        refine OpsT.cons (Does.call (d := some 57) (n := 9) (vs := [.agg (c_ApiEvent y47).toArray]) (by kernel_rfl) en9 (c9 w0 w _ _ hI (hT.mono hle44) y47 hl48 _ hc50) ?_)
        rintro e w ⟨rfl, hI⟩
        refine ⟨_, rfl, ?_⟩
        refine OpsT.pures (r := []) [2] [2, 6, 11, 58] (S' := [(2, .pointer (some ⟨b1, 0, none⟩)), (6, .string x17), (11, .pointer (some ⟨b49, 0, none⟩)), (58, .bool (!y51))]) (by kernel_rfl) ?_
        refine OpsT.done ?_
        refine Qn.then ?_
        by_cases hb52 : (!y51) = true
        · rw [if_pos hb52] at h0
          refine CodT.yes' (b := !y51) (by kernel_rfl) hb52 ?_
          refine CodT.seq ?_
          refine CodT.regionL [0, 1, 2, 3] (by kernel_rfl) ?_
          refine OpsT.pures (r := [1, 2, 3]) [0] [2, 59] (S' := [(2, .pointer (some ⟨b1, 0, none⟩)), (59, .agg (c_ApiEvent (ApiEvent.mk 0 0 (⟨#[]⟩ : ByteArray) 0 0 (List.replicate 32 (0 : Int)))).toArray)]) (by kernel_rfl) ?_
          have hI := hI.mono (pick2 _ _ _)
          refine OpsT.cons (Does.storeLit (T := 26) (b := b1) (o := 0) (v := .agg (c_ApiEvent (ApiEvent.mk 0 0 (⟨#[]⟩ : ByteArray) 0 0 (List.replicate 32 (0 : Int)))).toArray) (l := c_ApiEvent (ApiEvent.mk 0 0 (⟨#[]⟩ : ByteArray) 0 0 (List.replicate 32 (0 : Int)))) (vs := c_ApiEvent (ApiEvent.mk 0 0 (⟨#[]⟩ : ByteArray) 0 0 (List.replicate 32 (0 : Int)))) (L' := c_ApiEvent (ApiEvent.mk 0 0 (⟨#[]⟩ : ByteArray) 0 0 (List.replicate 32 (0 : Int)))) (by kernel_rfl) ty26 hI (by kernel_rfl) (len_ApiEvent _ (by kernel_rfl)) (by rw [(len_ApiEvent _ (by kernel_rfl))]; kernel_rfl) (ones_app _ _ (by kernel_rfl) (ones_cA _)) (lset_all _ _ (Eq.trans (len_ApiEvent _ (by kernel_rfl)) (Eq.symm (len_ApiEvent _ (by kernel_rfl))))) ?_)
          intro w hI
          refine OpsT.pures (r := []) [2, 3] [2, 3, 4] (S' := [(2, .pointer (some ⟨b1, 0, none⟩)), (3, .string (⟨#[]⟩ : ByteArray)), (4, .bool false)]) (by kernel_rfl) ?_
          refine OpsT.done ?_
          refine Qn.then ?_
          refine CodT.ret ?_
          refine Qn.ret_then ?_
          have hL53 := (ldBN ty26 (l := c_ApiEvent (ApiEvent.mk 0 0 (⟨#[]⟩ : ByteArray) 0 0 (List.replicate 32 (0 : Int)))) (o := 0) (cs := c_ApiEvent (ApiEvent.mk 0 0 (⟨#[]⟩ : ByteArray) 0 0 (List.replicate 32 (0 : Int)))) (ent_refl _) (len_ApiEvent _ (by kernel_rfl)) (whole _ _ (len_ApiEvent _ (by kernel_rfl)))) w hI
          have hI := hI.drop
          have hI := hI.drop
          have e := someS h0
          subst e
          refine Qn.keep [2, 3, 4] (S' := [(2, .pointer (some ⟨b1, 0, none⟩)), (3, .string (⟨#[]⟩ : ByteArray)), (4, .bool false)]) (by kernel_rfl) ?_
          exact post_ret (v := .tuple #[.agg (c_ApiEvent (ApiEvent.mk 0 0 (⟨#[]⟩ : ByteArray) 0 0 (List.replicate 32 (0 : Int)))).toArray, .string (⟨#[]⟩ : ByteArray), .bool false]) (fun a ha => RunRes.run (vs := [.agg (c_ApiEvent (ApiEvent.mk 0 0 (⟨#[]⟩ : ByteArray) 0 0 (List.replicate 32 (0 : Int)))).toArray, .string (⟨#[]⟩ : ByteArray), .bool false]) (.cell (t := 2) (T := 26) (ad := ⟨b1, 0, none⟩) (by kernel_rfl) hL53 (.tmp (t := 3) (by kernel_rfl) (.tmp (t := 4) (by kernel_rfl) .nil))) ha (by kernel_rfl)) ⟨rfl, (by kernel_rfl), hI.weaken hle44⟩
        · rw [if_neg hb52] at h0
          refine CodT.no' (b := !y51) (by kernel_rfl) (by simpa using hb52) ?_
          refine CodT.skip ?_
          refine Qn.then ?_
          refine CodT.seq ?_
          refine CodT.regionL [0, 1, 2, 3, 4] (by kernel_rfl) ?_
          refine OpsT.cons (Does.yi (Yl.load (d := 60) (T := 26) (v := .agg (c_ApiEvent y47).toArray) (by kernel_rfl) (ldBN ty26 (l := c_ApiEvent y47) (o := 0) (cs := c_ApiEvent y47) (ent_refl _) (len_ApiEvent _ hl48) (whole _ _ (len_ApiEvent _ hl48)))) hI ?_)
          refine OpsT.pures (r := [2, 3, 4]) [1] [2, 60, 61] (S' := [(2, .pointer (some ⟨b1, 0, none⟩)), (60, .agg (c_ApiEvent y47).toArray), (61, .string x17)]) (by kernel_rfl) ?_
          have hI := hI.mono (pick2 _ _ _)
          refine OpsT.cons (Does.storeLit (T := 26) (b := b1) (o := 0) (v := .agg (c_ApiEvent y47).toArray) (l := c_ApiEvent (ApiEvent.mk 0 0 (⟨#[]⟩ : ByteArray) 0 0 (List.replicate 32 (0 : Int)))) (vs := c_ApiEvent y47) (L' := c_ApiEvent y47) (by kernel_rfl) ty26 hI (by kernel_rfl) (len_ApiEvent _ hl48) (by rw [(len_ApiEvent _ (by kernel_rfl))]; kernel_rfl) (ones_app _ _ (by kernel_rfl) (ones_cA _)) (lset_all _ _ (Eq.trans (len_ApiEvent _ hl48) (Eq.symm (len_ApiEvent _ (by kernel_rfl))))) ?_)
          intro w hI
          refine OpsT.pures (r := []) [3, 4] [2, 3, 4] (S' := [(2, .pointer (some ⟨b1, 0, none⟩)), (3, .string x17), (4, .bool true)]) (by kernel_rfl) ?_
          refine OpsT.done ?_
          refine Qn.then ?_
          refine CodT.ret ?_
          have hL54 := (ldBN ty26 (l := c_ApiEvent y47) (o := 0) (cs := c_ApiEvent y47) (ent_refl _) (len_ApiEvent _ hl48) (whole _ _ (len_ApiEvent _ hl48))) w hI
          have hI := hI.drop
          have hI := hI.drop
          have e := someS h0
          subst e
          refine Qn.keep [2, 3, 4] (S' := [(2, .pointer (some ⟨b1, 0, none⟩)), (3, .string x17), (4, .bool true)]) (by kernel_rfl) ?_
          exact post_ret (v := .tuple #[.agg (c_ApiEvent y47).toArray, .string x17, .bool true]) (fun a ha => RunRes.run (vs := [.agg (c_ApiEvent y47).toArray, .string x17, .bool true]) (.cell (t := 2) (T := 26) (ad := ⟨b1, 0, none⟩) (by kernel_rfl) hL54 (.tmp (t := 3) (by kernel_rfl) (.tmp (t := 4) (by kernel_rfl) .nil))) ha (by kernel_rfl)) ⟨rfl, hl48, hI.weaken hle44⟩
set_option maxRecDepth 100000 in
set_option maxHeartbeats 4000000 in
/-- cenotaph/event.Ranks -/
theorem c8 (w0 w : World) (Z : Hp) (A : HP) (hI : Inv w0 Z w A) (hT : Tabs Z) (A_a0 : Option Addr) (c_a0 : Nat) (a0 : (List ApiEvent)) (hr_a0 : RdS Z c_ApiEvent 37 A_a0 c_a0 a0) (r : (List Int)) (h0 : event_Ranks a0 = some r) :
    Calls prog 8 #[.slice A_a0 a0.length c_a0] w (fun e w' => ∃ (A1 : Option Addr) (c1 : Nat), e = .returned (.slice A1 r.length c1) ∧ Inv w0 Z w' (star (ownS 3 (cI .i64) 1 A1 c1 r) A)) := by
  have e4 := calls_intro (R := (fun e w' => ∃ (A1 : Option Addr) (c1 : Nat), e = .returned (.slice A1 r.length c1) ∧ Inv w0 Z w' (star (ownS 3 (cI .i64) 1 A1 c1 r) A))) (w := w) (args := [.slice A_a0 a0.length c_a0]) (fn := Go.Proofs.Try.f8) 54 Go.Proofs.Try.func8 (by rfl) Go.Proofs.Try.ntmps8 (by kernel_rfl)
  refine e4 ?_
  clear e4
  unfold event_Ranks at h0
  refine CodT.seq ?_
  refine CodT.regionL [0] (by kernel_rfl) ?_
  refine OpsT.pures (r := []) [0] [0] (S' := [(0, .slice A_a0 a0.length c_a0)]) (by kernel_rfl) ?_
  refine OpsT.done ?_
  refine Qn.then ?_
  refine CodT.seq ?_
  refine CodT.regionL [0, 1] (by kernel_rfl) ?_
  refine OpsT.cons (Does.makeMap (α := Dyn20) (β := Int) (d := 11) (T := 52) dynV20 (fun x : Int => Value.int .i64 x) (by kernel_rfl) hI ?_)
  intro b1 w hI
  refine OpsT.pures (r := []) [1] [0, 3] (S' := [(0, .slice A_a0 a0.length c_a0), (3, .map (some b1))]) (by kernel_rfl) ?_
  refine OpsT.done ?_
  refine Qn.then ?_
  refine CodT.seq ?_
  refine CodT.regionL [0] (by kernel_rfl) ?_
  refine OpsT.pures (r := []) [0] [0, 3, 4] (S' := [(0, .slice A_a0 a0.length c_a0), (3, .map (some b1)), (4, .slice none 0 0)]) (by kernel_rfl) ?_
  refine OpsT.done ?_
  refine Qn.then ?_
  refine CodT.seq ?_
  refine CodT.seq ?_
  refine CodT.regionL [0, 1, 2] (by kernel_rfl) ?_
  refine OpsT.pures (r := []) [0, 1, 2] [3, 4, 12, 13, 14] (S' := [(3, .map (some b1)), (4, .slice none 0 0), (12, .slice A_a0 a0.length c_a0), (13, .int .i64 (a0.length : Int)), (14, .int .i64 0)]) (by kernel_rfl) ?_
  refine OpsT.done ?_
  refine Qn.then ?_
  obtain ⟨r1, h1, h0⟩ := bindS h0
  refine CodT.meet1 (fun a w => ∃ (x2 : (List Int)) (A3 : Option Addr) (cp4 : Nat), x2 = r1 ∧ Fr 54 [(4, .slice A3 x2.length cp4)] a ∧ Inv w0 Z w (star (ownS 3 (cI .i64) 1 A3 cp4 x2) A)) ?_ ?_
  ·
    refine CodT.block ?_
    have hI := ownS_nil (α := Int) hI 3 (cI .i64) 1
    refine (fun a ha => wp_loopN (fun k a w => ∃ (x5 : (List Int)) (x8 : Int) (x9 : (List (Dyn20 × Int))) (A6 : Option Addr) (cp7 : Nat), event_Ranks.l0 a0 k x5 x8 x9 = some r1 ∧ Fr 54 [(3, .map (some b1)), (4, .slice A6 x5.length cp7), (12, .slice A_a0 a0.length c_a0), (13, .int .i64 (a0.length : Int)), (14, .int .i64 x8)] a ∧ Inv w0 Z w (star (ownS 3 (cI .i64) 1 A6 cp7 x5) (star (pt b1 (mObj dynV20 (fun x : Int => Value.int .i64 x) x9)) A))) ?_ FU a w ⟨([] : List Int), 0, ([] : List (Dyn20 × Int)), none, 0, h1, ha.keep [3, 4, 12, 13, 14] (by kernel_rfl), hI⟩)
    clear h1 hI
    rintro k a w ⟨x5, x8, x9, A6, cp7, h1, ha, hI⟩
    rcases k with _ | k
    · cases h1
    simp only [event_Ranks.l0] at h1
    refine CodT.of ?_ ha
    refine CodT.seq ?_
    refine CodT.regionL [0] (by kernel_rfl) ?_
    refine OpsT.pures (r := []) [0] [3, 4, 12, 13, 14, 15] (S' := [(3, .map (some b1)), (4, .slice A6 x5.length cp7), (12, .slice A_a0 a0.length c_a0), (13, .int .i64 (a0.length : Int)), (14, .int .i64 x8), (15, .bool (decide (x8 < (a0.length : Int))))]) (by kernel_rfl) ?_
    refine OpsT.done ?_
    refine Qn.then ?_
    refine CodT.seq ?_
    by_cases hb10 : (decide (x8 < (a0.length : Int))) = true
    · rw [if_pos hb10] at h1
      refine CodT.yes' (b := decide (x8 < (a0.length : Int))) (by kernel_rfl) hb10 ?_
      refine CodT.skip ?_
      refine Qn.then ?_
      obtain ⟨r2, h2, h1⟩ := bindS h1
      refine CodT.meet (fun a w => ∃ (x11 : (List Int)) (x14 : (List (Dyn20 × Int))) (A12 : Option Addr) (cp13 : Nat), (x11, x14) = r2 ∧ Fr 54 [(3, .map (some b1)), (4, .slice A12 x11.length cp13), (12, .slice A_a0 a0.length c_a0), (13, .int .i64 (a0.length : Int)), (14, .int .i64 x8)] a ∧ Inv w0 Z w (star (ownS 3 (cI .i64) 1 A12 cp13 x11) (star (pt b1 (mObj dynV20 (fun x : Int => Value.int .i64 x) x14)) A))) ?_ ?_
      ·
        refine CodT.block ?_
        refine CodT.seq ?_
        refine CodT.regionL [0, 1, 2, 3] (by kernel_rfl) ?_
        obtain ⟨hg15, h2⟩ := guardS h2
        obtain ⟨g16, o20, hA17, hr18, hl19⟩ := RdS.get hr_a0 hg15.1 hg15.2
        refine OpsT.cons (Does.yi (Yl.indexSlice (d := 16) (T := 36) (cc := c_a0) (k := .i64) (j := x8) (g := g16) (o := o20) (by kernel_rfl) Go.Proofs.Try.underlying36 ty26 hA17 hg15.1 hg15.2) hI ?_)
        refine OpsT.cons (Does.yi (Yl.load (d := 17) (T := 26) (v := .agg (c_ApiEvent (gt a0 x8)).toArray) (by kernel_rfl) (ldRN ty26 (cs := c_ApiEvent (gt a0 x8)) 0 (fun w hC => hr18 w0 w _ hC) hl19 (whole _ _ hl19))) hI ?_)
        refine OpsT.cons (Does.allocL (d := 6) (T := 26) (c_ApiEvent (ApiEvent.mk 0 0 (⟨#[]⟩ : ByteArray) 0 0 (List.replicate 32 (0 : Int)))) (by kernel_rfl) ty26 hI (by kernel_rfl) ?_)
        intro b21 w hI
        refine OpsT.cons (Does.storeLit (T := 26) (b := b21) (o := 0) (v := .agg (c_ApiEvent (gt a0 x8)).toArray) (l := c_ApiEvent (ApiEvent.mk 0 0 (⟨#[]⟩ : ByteArray) 0 0 (List.replicate 32 (0 : Int)))) (vs := c_ApiEvent (gt a0 x8)) (L' := c_ApiEvent (gt a0 x8)) (by kernel_rfl) ty26 hI (by kernel_rfl) (len_ApiEvent _ (inv_ApiEvent _ hl19)) (by rw [(len_ApiEvent _ (by kernel_rfl))]; kernel_rfl) (ones_app _ _ (by kernel_rfl) (ones_cA _)) (lset_all _ _ (Eq.trans (len_ApiEvent _ (inv_ApiEvent _ hl19)) (Eq.symm (len_ApiEvent _ (by kernel_rfl))))) ?_)
        intro w hI
        refine OpsT.done ?_
        refine Qn.then ?_
        refine CodT.seq ?_
        refine CodT.regionL [0, 1, 2, 3] (by kernel_rfl) ?_
        refine OpsT.pures (r := [1, 2, 3]) [0] [3, 4, 6, 12, 13, 14, 18] (S' := [(3, .map (some b1)), (4, .slice A6 x5.length cp7), (6, .pointer (some ⟨b21, 0, none⟩)), (12, .slice A_a0 a0.length c_a0), (13, .int .i64 (a0.length : Int)), (14, .int .i64 x8), (18, .pointer (some ⟨b21, 1, none⟩))]) (by kernel_rfl) ?_
        refine OpsT.cons (Does.yi (Yl.load (d := 19) (T := 3) (v := .int .i64 ((gt a0 x8).ID)) (by kernel_rfl) (ldB ty3 (l := c_ApiEvent (gt a0 x8)) (o := 1) (v := .int .i64 ((gt a0 x8).ID)) (ent_refl _) (by kernel_rfl))) hI ?_)
        refine OpsT.pures (r := []) [2, 3] [3, 4, 6, 7, 12, 13, 14] (S' := [(3, .map (some b1)), (4, .slice A6 x5.length cp7), (6, .pointer (some ⟨b21, 0, none⟩)), (7, .iface 53 (.int .i64 ((gt a0 x8).ID))), (12, .slice A_a0 a0.length c_a0), (13, .int .i64 (a0.length : Int)), (14, .int .i64 x8)]) (by kernel_rfl) ?_
        refine OpsT.done ?_
        refine Qn.then ?_
        obtain ⟨r3, h3, h2⟩ := bindS h2
        refine CodT.meet (fun a w => ∃ (x22 : Dyn20), x22 = r3 ∧ Fr 54 [(3, .map (some b1)), (4, .slice A6 x5.length cp7), (7, dynV20 x22), (12, .slice A_a0 a0.length c_a0), (13, .int .i64 (a0.length : Int)), (14, .int .i64 x8)] a ∧ Inv w0 Z w (star (pt b1 (mObj dynV20 (fun x : Int => Value.int .i64 x) x9)) (star (ownS 3 (cI .i64) 1 A6 cp7 x5) A))) ?_ ?_
        ·
          refine CodT.seq ?_
          refine CodT.regionL [0, 1, 2] (by kernel_rfl) ?_
          refine OpsT.pures (r := [1, 2]) [0] [3, 4, 7, 12, 13, 14, 21] (S' := [(3, .map (some b1)), (4, .slice A6 x5.length cp7), (7, .iface 53 (.int .i64 ((gt a0 x8).ID))), (12, .slice A_a0 a0.length c_a0), (13, .int .i64 (a0.length : Int)), (14, .int .i64 x8), (21, .pointer (some ⟨b21, 0, none⟩))]) (by kernel_rfl) ?_
          refine OpsT.cons (Does.yi (Yl.load (d := 22) (T := 22) (v := .int .i64 ((gt a0 x8).Kind)) (by kernel_rfl) (ldB ty22 (l := c_ApiEvent (gt a0 x8)) (o := 0) (v := .int .i64 ((gt a0 x8).Kind)) (ent_refl _) (by kernel_rfl))) hI ?_)
          refine OpsT.pures (r := []) [2] [3, 4, 7, 12, 13, 14, 23] (S' := [(3, .map (some b1)), (4, .slice A6 x5.length cp7), (7, .iface 53 (.int .i64 ((gt a0 x8).ID))), (12, .slice A_a0 a0.length c_a0), (13, .int .i64 (a0.length : Int)), (14, .int .i64 x8), (23, .bool (((gt a0 x8).Kind) == 7))]) (by kernel_rfl) ?_
          refine OpsT.done ?_
          refine Qn.then ?_
          by_cases hb23 : (((gt a0 x8).Kind) == 7) = true
          · rw [if_pos hb23] at h3
            refine CodT.yes' (b := ((gt a0 x8).Kind) == 7) (by kernel_rfl) hb23 ?_
            refine CodT.regionL [0, 1] (by kernel_rfl) ?_
            refine OpsT.pures (r := []) [0, 1] [3, 4, 7, 12, 13, 14] (S' := [(3, .map (some b1)), (4, .slice A6 x5.length cp7), (7, .iface 54 (.string (⟨#[]⟩ : ByteArray))), (12, .slice A_a0 a0.length c_a0), (13, .int .i64 (a0.length : Int)), (14, .int .i64 x8)]) (by kernel_rfl) ?_
            refine OpsT.done ?_
            have hI := hI.drop
            have hI := hI.mono (pick2 _ _ _)
            have e := someS h3
            subst e
            exact Qn.thenJ fun a ha => ⟨(Dyn20.i54 (⟨#[]⟩ : ByteArray)), rfl, ha.keep [3, 4, 7, 12, 13, 14] (by kernel_rfl), hI⟩
          · rw [if_neg hb23] at h3
            refine CodT.no' (b := ((gt a0 x8).Kind) == 7) (by kernel_rfl) (by simpa using hb23) ?_
            refine CodT.skip ?_
            have hI := hI.drop
            have hI := hI.mono (pick2 _ _ _)
            have e := someS h3
            subst e
            exact Qn.thenJ fun a ha => ⟨(Dyn20.i53 ((gt a0 x8).ID)), rfl, ha.keep [3, 4, 7, 12, 13, 14] (by kernel_rfl), hI⟩
        ·
          rintro a w ⟨x22, rfl, ha, hI⟩
          try dsimp only at h2
          refine CodT.of ?_ ha
          refine CodT.seq ?_
          refine CodT.regionL [0, 1, 2, 3] (by kernel_rfl) ?_
          refine OpsT.pures (r := [2, 3]) [0, 1] [3, 4, 7, 12, 13, 14, 25, 26] (S' := [(3, .map (some b1)), (4, .slice A6 x5.length cp7), (7, dynV20 x22), (12, .slice A_a0 a0.length c_a0), (13, .int .i64 (a0.length : Int)), (14, .int .i64 x8), (25, .map (some b1)), (26, dynV20 x22)]) (by kernel_rfl) ?_
          refine OpsT.cons (Does.yi (Yl.lookup (d := 27) (mt := 52) (b := b1) (kv := dynV20) (vv := (fun x : Int => Value.int .i64 x)) (m := x9) (k := x22) (ok := false) (r := .int .i64 (mVal (0 : Int) x22 x9)) (by kernel_rfl) kt20 Go.Proofs.Try.underlying52 (0 : Int) (fun w => by kernel_rfl) (fun w hC => hC.mono (ent_refl _)) rfl) hI ?_)
          refine OpsT.pures (r := []) [3] [3, 4, 7, 8, 12, 13, 14] (S' := [(3, .map (some b1)), (4, .slice A6 x5.length cp7), (7, dynV20 x22), (8, .int .i64 (mVal (0 : Int) x22 x9)), (12, .slice A_a0 a0.length c_a0), (13, .int .i64 (a0.length : Int)), (14, .int .i64 x8)]) (by kernel_rfl) ?_
          refine OpsT.done ?_
          refine Qn.then ?_
          refine CodT.seq ?_
          refine CodT.drawI (n := 7) [4, 6] (by kernel_rfl) (by kernel_rfl) hI ?_
          intro w hI
          refine GmT.p' 0 28 (.map (some b1)) (by kernel_rfl) (by kernel_rfl) ?_
          refine GmT.p' 1 29 (dynV20 x22) (by kernel_rfl) (by kernel_rfl) ?_
          refine GmT.several [2, 4] (by kernel_rfl) rfl ?_
          intro i hi; simp only [List.mem_cons, List.not_mem_nil, or_false] at hi; rcases hi with rfl | rfl
          ·
            rw [lst_set]
            refine (Does.yi (Yl.lookup (d := 30) (mt := 52) (b := b1) (kv := dynV20) (vv := (fun x : Int => Value.int .i64 x)) (m := x9) (k := x22) (ok := false) (r := .int .i64 (mVal (0 : Int) x22 x9)) (by kernel_rfl) kt20 Go.Proofs.Try.underlying52 (0 : Int) (fun w => by kernel_rfl) (fun w hC => hC.mono (ent_refl _)) rfl) hI ?_)
            refine ⟨fun _ h => h, ?_⟩
            refine GmT.p' 3 31 (.int .i64 (wi64 ((mVal (0 : Int) x22 x9) + 1))) (by kernel_rfl) (by kernel_rfl) ?_
            refine GmT.o (i := 4) (by kernel_rfl) (Does.mapEntry (d := 32) (mt := 52) (b := b1) (kv := dynV20) (vv := (fun x : Int => Value.int .i64 x)) (m := x9) (k := x22) (by kernel_rfl) kt20 Go.Proofs.Try.underlying52 (0 : Int) (fun w => by kernel_rfl) hI ?_)
            intro w hI
            refine ⟨fun h => absurd h (by decide), ?_⟩
            refine GmT.p' 5 33 (.int .i64 ((mIdx x22 x9 : Nat) : Int)) (by kernel_rfl) (by kernel_rfl) ?_
            obtain ⟨hg24, h2⟩ := guardS h2
            refine GmT.o (i := 6) (by kernel_rfl) (Does.entryStore (mt := 52) (b := b1) (j := mIdx x22 x9) (kv := dynV20) (vv := (fun x : Int => Value.int .i64 x)) (m := mEnt (0 : Int) x22 x9) (q := .i64) (x := wi64 ((mVal (0 : Int) x22 x9) + 1)) (by kernel_rfl) hI hg24 ?_)
            intro w hI
            refine ⟨fun h => absurd h (by decide), ?_⟩
            refine GmT.done (by kernel_rfl) ?_
            refine Qn.then ?_
            obtain ⟨r3, h3, h2⟩ := bindS h2
            refine CodT.meet (fun a w => ∃ (x25 : Int), x25 = r3 ∧ Fr 54 [(3, .map (some b1)), (4, .slice A6 x5.length cp7), (8, .int .i64 x25), (12, .slice A_a0 a0.length c_a0), (13, .int .i64 (a0.length : Int)), (14, .int .i64 x8)] a ∧ Inv w0 Z w (star (pt b1 (mObj dynV20 (fun x : Int => Value.int .i64 x) (mSet (mIdx x22 x9) (wi64 ((mVal (0 : Int) x22 x9) + 1)) (mEnt (0 : Int) x22 x9)))) (star (ownS 3 (cI .i64) 1 A6 cp7 x5) A))) ?_ ?_
            ·
              refine CodT.seq ?_
              refine CodT.regionL [0, 1, 2, 3, 4, 5, 6] (by kernel_rfl) ?_
              refine OpsT.pures (r := [1, 2, 3, 4, 5, 6]) [0] [3, 4, 7, 8, 12, 13, 14, 35] (S' := [(3, .map (some b1)), (4, .slice A6 x5.length cp7), (7, dynV20 x22), (8, .int .i64 (mVal (0 : Int) x22 x9)), (12, .slice A_a0 a0.length c_a0), (13, .int .i64 (a0.length : Int)), (14, .int .i64 x8), (35, dynV20 x22)]) (by kernel_rfl) ?_
              rcases (show x22 = .nil ∨ (∃ z, x22 = .i9 z) ∨ (∃ z, x22 = .i53 z) ∨ (∃ z, x22 = .i54 z) from by cases x22 <;> simp) with hd26 | ⟨z27, hd26⟩ | ⟨z28, hd26⟩ | ⟨z29, hd26⟩
              ·
                simp only [hd26] at h3
                refine OpsT.keep [3, 4, 7, 8, 12, 13, 14, 35] (S' := [(3, .map (some b1)), (4, .slice A6 x5.length cp7), (7, .nilIface), (8, .int .i64 (mVal (0 : Int) x22 x9)), (12, .slice A_a0 a0.length c_a0), (13, .int .i64 (a0.length : Int)), (14, .int .i64 x8), (35, .nilIface)]) (by (try simp only [hd26]); kernel_rfl) ?_
                refine OpsT.pures (r := []) [1, 2, 3, 4, 5, 6] [3, 4, 7, 8, 10, 12, 13, 14] (S' := [(3, .map (some b1)), (4, .slice A6 x5.length cp7), (7, .nilIface), (8, .int .i64 (mVal (0 : Int) x22 x9)), (10, .bool false), (12, .slice A_a0 a0.length c_a0), (13, .int .i64 (a0.length : Int)), (14, .int .i64 x8)]) (by kernel_rfl) ?_
                refine OpsT.done ?_
                refine Qn.then ?_
                refine CodT.seq ?_
                refine CodT.regionL [0, 1] (by kernel_rfl) ?_
                refine OpsT.pures (r := []) [0, 1] [3, 4, 7, 8, 12, 13, 14, 40] (S' := [(3, .map (some b1)), (4, .slice A6 x5.length cp7), (7, .nilIface), (8, .int .i64 (mVal (0 : Int) x22 x9)), (12, .slice A_a0 a0.length c_a0), (13, .int .i64 (a0.length : Int)), (14, .int .i64 x8), (40, .bool true)]) (by kernel_rfl) ?_
                refine OpsT.done ?_
                refine Qn.then ?_
                refine CodT.yes (by kernel_rfl) ?_
                refine CodT.regionL [0] (by kernel_rfl) ?_
                refine OpsT.pures (r := []) [0] [3, 4, 8, 12, 13, 14] (S' := [(3, .map (some b1)), (4, .slice A6 x5.length cp7), (8, .int .i64 0), (12, .slice A_a0 a0.length c_a0), (13, .int .i64 (a0.length : Int)), (14, .int .i64 x8)]) (by kernel_rfl) ?_
                refine OpsT.done ?_
                have e := someS h3
                subst e
                exact Qn.thenJ fun a ha => ⟨0, rfl, ha.keep [3, 4, 8, 12, 13, 14] (by kernel_rfl), hI⟩
              ·
                simp only [hd26] at h3
                refine OpsT.keep [3, 4, 7, 8, 12, 13, 14, 35] (S' := [(3, .map (some b1)), (4, .slice A6 x5.length cp7), (7, .iface 9 (.string z27)), (8, .int .i64 (mVal (0 : Int) x22 x9)), (12, .slice A_a0 a0.length c_a0), (13, .int .i64 (a0.length : Int)), (14, .int .i64 x8), (35, .iface 9 (.string z27))]) (by (try simp only [hd26]); kernel_rfl) ?_
                refine OpsT.pures (r := []) [1, 2, 3, 4, 5, 6] [3, 4, 7, 8, 10, 12, 13, 14] (S' := [(3, .map (some b1)), (4, .slice A6 x5.length cp7), (7, .iface 9 (.string z27)), (8, .int .i64 (mVal (0 : Int) x22 x9)), (10, .bool false), (12, .slice A_a0 a0.length c_a0), (13, .int .i64 (a0.length : Int)), (14, .int .i64 x8)]) (by kernel_rfl) ?_
                refine OpsT.done ?_
                refine Qn.then ?_
                refine CodT.seq ?_
                refine CodT.regionL [0, 1] (by kernel_rfl) ?_
                refine OpsT.pures (r := []) [0, 1] [3, 4, 7, 8, 12, 13, 14, 40] (S' := [(3, .map (some b1)), (4, .slice A6 x5.length cp7), (7, .iface 9 (.string z27)), (8, .int .i64 (mVal (0 : Int) x22 x9)), (12, .slice A_a0 a0.length c_a0), (13, .int .i64 (a0.length : Int)), (14, .int .i64 x8), (40, .bool true)]) (by kernel_rfl) ?_
                refine OpsT.done ?_
                refine Qn.then ?_
                refine CodT.yes (by kernel_rfl) ?_
                refine CodT.regionL [0] (by kernel_rfl) ?_
                refine OpsT.pures (r := []) [0] [3, 4, 8, 12, 13, 14] (S' := [(3, .map (some b1)), (4, .slice A6 x5.length cp7), (8, .int .i64 0), (12, .slice A_a0 a0.length c_a0), (13, .int .i64 (a0.length : Int)), (14, .int .i64 x8)]) (by kernel_rfl) ?_
                refine OpsT.done ?_
                have e := someS h3
                subst e
                exact Qn.thenJ fun a ha => ⟨0, rfl, ha.keep [3, 4, 8, 12, 13, 14] (by kernel_rfl), hI⟩
              ·
                simp only [hd26] at h3
                refine OpsT.keep [3, 4, 7, 8, 12, 13, 14, 35] (S' := [(3, .map (some b1)), (4, .slice A6 x5.length cp7), (7, .iface 53 (.int .i64 z28)), (8, .int .i64 (mVal (0 : Int) x22 x9)), (12, .slice A_a0 a0.length c_a0), (13, .int .i64 (a0.length : Int)), (14, .int .i64 x8), (35, .iface 53 (.int .i64 z28))]) (by (try simp only [hd26]); kernel_rfl) ?_
                refine OpsT.pures (r := []) [1, 2, 3, 4, 5, 6] [3, 4, 7, 8, 10, 12, 13, 14] (S' := [(3, .map (some b1)), (4, .slice A6 x5.length cp7), (7, .iface 53 (.int .i64 z28)), (8, .int .i64 (mVal (0 : Int) x22 x9)), (10, .bool true), (12, .slice A_a0 a0.length c_a0), (13, .int .i64 (a0.length : Int)), (14, .int .i64 x8)]) (by kernel_rfl) ?_
                refine OpsT.done ?_
                refine Qn.then ?_
                refine CodT.seq ?_
                refine CodT.regionL [0, 1] (by kernel_rfl) ?_
                refine OpsT.pures (r := []) [0, 1] [3, 4, 7, 8, 12, 13, 14, 40] (S' := [(3, .map (some b1)), (4, .slice A6 x5.length cp7), (7, .iface 53 (.int .i64 z28)), (8, .int .i64 (mVal (0 : Int) x22 x9)), (12, .slice A_a0 a0.length c_a0), (13, .int .i64 (a0.length : Int)), (14, .int .i64 x8), (40, .bool false)]) (by kernel_rfl) ?_
                refine OpsT.done ?_
                refine Qn.then ?_
                refine CodT.no (by kernel_rfl) ?_
                refine CodT.regionL [0, 1, 2, 3, 4, 5, 6, 7] (by kernel_rfl) ?_
                refine OpsT.pures (r := [5, 6, 7]) [0, 1, 2, 3, 4] [3, 4, 12, 13, 14, 41, 42, 45] (S' := [(3, .map (some b1)), (4, .slice A6 x5.length cp7), (12, .slice A_a0 a0.length c_a0), (13, .int .i64 (a0.length : Int)), (14, .int .i64 x8), (41, .int .i64 (mVal (0 : Int) x22 x9)), (42, .map (some b1)), (45, .iface 53 (.int .i64 z28))]) (by kernel_rfl) ?_
                refine OpsT.cons (Does.yi (Yl.lookup (d := 46) (mt := 52) (b := b1) (kv := dynV20) (vv := (fun x : Int => Value.int .i64 x)) (m := mSet (mIdx x22 x9) (wi64 ((mVal (0 : Int) x22 x9) + 1)) (mEnt (0 : Int) x22 x9)) (k := (Dyn20.i53 z28)) (ok := false) (r := .int .i64 (mVal (0 : Int) (Dyn20.i53 z28) (mSet (mIdx x22 x9) (wi64 ((mVal (0 : Int) x22 x9) + 1)) (mEnt (0 : Int) x22 x9)))) (by kernel_rfl) kt20 Go.Proofs.Try.underlying52 (0 : Int) (fun w => by kernel_rfl) (fun w hC => hC.mono (ent_refl _)) rfl) hI ?_)
                refine OpsT.pures (r := []) [6, 7] [3, 4, 8, 12, 13, 14] (S' := [(3, .map (some b1)), (4, .slice A6 x5.length cp7), (8, .int .i64 (if (mVal (0 : Int) (Dyn20.i53 z28) (mSet (mIdx x22 x9) (wi64 ((mVal (0 : Int) x22 x9) + 1)) (mEnt (0 : Int) x22 x9))) < (mVal (0 : Int) x22 x9) then mVal (0 : Int) (Dyn20.i53 z28) (mSet (mIdx x22 x9) (wi64 ((mVal (0 : Int) x22 x9) + 1)) (mEnt (0 : Int) x22 x9)) else mVal (0 : Int) x22 x9)), (12, .slice A_a0 a0.length c_a0), (13, .int .i64 (a0.length : Int)), (14, .int .i64 x8)]) (by kernel_rfl) ?_
                refine OpsT.done ?_
                have e := someS h3
                subst e
                exact Qn.thenJ fun a ha => ⟨if (mVal (0 : Int) (Dyn20.i53 z28) (mSet (mIdx x22 x9) (wi64 ((mVal (0 : Int) x22 x9) + 1)) (mEnt (0 : Int) x22 x9))) < (mVal (0 : Int) x22 x9) then mVal (0 : Int) (Dyn20.i53 z28) (mSet (mIdx x22 x9) (wi64 ((mVal (0 : Int) x22 x9) + 1)) (mEnt (0 : Int) x22 x9)) else mVal (0 : Int) x22 x9, (by simp only [hd26]), ha.keep [3, 4, 8, 12, 13, 14] (by kernel_rfl), hI⟩
              ·
                simp only [hd26] at h3
                refine OpsT.keep [3, 4, 7, 8, 12, 13, 14, 35] (S' := [(3, .map (some b1)), (4, .slice A6 x5.length cp7), (7, .iface 54 (.string z29)), (8, .int .i64 (mVal (0 : Int) x22 x9)), (12, .slice A_a0 a0.length c_a0), (13, .int .i64 (a0.length : Int)), (14, .int .i64 x8), (35, .iface 54 (.string z29))]) (by (try simp only [hd26]); kernel_rfl) ?_
                refine OpsT.pures (r := []) [1, 2, 3, 4, 5, 6] [3, 4, 7, 8, 10, 12, 13, 14] (S' := [(3, .map (some b1)), (4, .slice A6 x5.length cp7), (7, .iface 54 (.string z29)), (8, .int .i64 (mVal (0 : Int) x22 x9)), (10, .bool false), (12, .slice A_a0 a0.length c_a0), (13, .int .i64 (a0.length : Int)), (14, .int .i64 x8)]) (by kernel_rfl) ?_
                refine OpsT.done ?_
                refine Qn.then ?_
                refine CodT.seq ?_
                refine CodT.regionL [0, 1] (by kernel_rfl) ?_
                refine OpsT.pures (r := []) [0, 1] [3, 4, 7, 8, 12, 13, 14, 40] (S' := [(3, .map (some b1)), (4, .slice A6 x5.length cp7), (7, .iface 54 (.string z29)), (8, .int .i64 (mVal (0 : Int) x22 x9)), (12, .slice A_a0 a0.length c_a0), (13, .int .i64 (a0.length : Int)), (14, .int .i64 x8), (40, .bool true)]) (by kernel_rfl) ?_
                refine OpsT.done ?_
                refine Qn.then ?_
                refine CodT.yes (by kernel_rfl) ?_
                refine CodT.regionL [0] (by kernel_rfl) ?_
                refine OpsT.pures (r := []) [0] [3, 4, 8, 12, 13, 14] (S' := [(3, .map (some b1)), (4, .slice A6 x5.length cp7), (8, .int .i64 0), (12, .slice A_a0 a0.length c_a0), (13, .int .i64 (a0.length : Int)), (14, .int .i64 x8)]) (by kernel_rfl) ?_
                refine OpsT.done ?_
                have e := someS h3
                subst e
                exact Qn.thenJ fun a ha => ⟨0, rfl, ha.keep [3, 4, 8, 12, 13, 14] (by kernel_rfl), hI⟩
            ·
              rintro a w ⟨x25, rfl, ha, hI⟩
              try dsimp only at h2
              refine CodT.of ?_ ha
              refine CodT.regionL [0, 1, 2, 3, 4] (by kernel_rfl) ?_
              refine OpsT.pures (r := [2, 3, 4]) [0, 1] [3, 12, 13, 14, 48, 49] (S' := [(3, .map (some b1)), (12, .slice A_a0 a0.length c_a0), (13, .int .i64 (a0.length : Int)), (14, .int .i64 x8), (48, .slice A6 x5.length cp7), (49, .int .i64 x25)]) (by kernel_rfl) ?_
              refine OpsT.cons (Does.buildSlice (en := (cI .i64)) (d := 50) (n := 1) (T := 34) (ps := [(0, .int .i64 x25)]) ([x25] : List Int) (by kernel_rfl) Go.Proofs.Try.underlying34 ty3 (by kernel_rfl) (by kernel_rfl) (by kernel_rfl) (by kernel_rfl) (len_all (fun _ => rfl)) hI ?_)
              intro b30 w hI
              obtain ⟨hg31, h2⟩ := guardS h2
              have hI := hI.mono (pick3 _ _ _ _)
              refine OpsT.cons (Does.append (d := 51) (t := 34) (tx := 34) (ty := 34) (ys := x5) (zs := ([x25] : List Int)) (x := .slice (some ⟨b30, 0, none⟩) (([x25] : List Int).length) 1) (by kernel_rfl) Go.Proofs.Try.underlying34 ty3 (by kernel_rfl) hI (src_own Go.Proofs.Try.underlying34 (hI.mono (pick2 _ _ _)) (one_flat _ (fun _ => rfl))) (ownS_facts (hI.mono (pick2 _ _ _))).2.2 (by unfold LIM at hg31; omega) hg31 ?_)
              intro A32 cp33 w hI
              refine OpsT.pures (r := []) [4] [3, 4, 12, 13, 14] (S' := [(3, .map (some b1)), (4, .slice A32 ((x5 ++ ([x25] : List Int)).length) cp33), (12, .slice A_a0 a0.length c_a0), (13, .int .i64 (a0.length : Int)), (14, .int .i64 x8)]) (by kernel_rfl) ?_
              refine OpsT.done ?_
              refine Qn.block_normal ?_
              have hI := hI.mono (pick2 _ _ _)
              have hI := hI.drop
              have e := someS h2
              subst e
              exact Qn.thenJ fun a ha => ⟨x5 ++ ([x25] : List Int), mSet (mIdx x22 x9) (wi64 ((mVal (0 : Int) x22 x9) + 1)) (mEnt (0 : Int) x22 x9), A32, cp33, rfl, ha.keep [3, 4, 12, 13, 14] (by kernel_rfl), hI⟩
          ·
            rw [lst_set]
            refine (Does.mapEntry (d := 32) (mt := 52) (b := b1) (kv := dynV20) (vv := (fun x : Int => Value.int .i64 x)) (m := x9) (k := x22) (by kernel_rfl) kt20 Go.Proofs.Try.underlying52 (0 : Int) (fun w => by kernel_rfl) hI ?_)
            intro w hI
            refine ⟨fun h => absurd h (by decide), ?_⟩
            refine GmT.p' 5 33 (.int .i64 ((mIdx x22 x9 : Nat) : Int)) (by kernel_rfl) (by kernel_rfl) ?_
            refine GmT.o (i := 2) (by kernel_rfl) (Does.yi (Yl.lookup (d := 30) (mt := 52) (b := b1) (kv := dynV20) (vv := (fun x : Int => Value.int .i64 x)) (m := mEnt (0 : Int) x22 x9) (k := x22) (ok := false) (r := .int .i64 (mVal (0 : Int) x22 x9)) (by kernel_rfl) kt20 Go.Proofs.Try.underlying52 (0 : Int) (fun w => by kernel_rfl) (fun w hC => hC.mono (ent_refl _)) (by simp only [Bool.false_eq_true, if_false, mVal_ent])) hI ?_)
            refine ⟨fun _ h => h, ?_⟩
            refine GmT.p' 3 31 (.int .i64 (wi64 ((mVal (0 : Int) x22 x9) + 1))) (by kernel_rfl) (by kernel_rfl) ?_
            obtain ⟨hg34, h2⟩ := guardS h2
            refine GmT.o (i := 6) (by kernel_rfl) (Does.entryStore (mt := 52) (b := b1) (j := mIdx x22 x9) (kv := dynV20) (vv := (fun x : Int => Value.int .i64 x)) (m := mEnt (0 : Int) x22 x9) (q := .i64) (x := wi64 ((mVal (0 : Int) x22 x9) + 1)) (by kernel_rfl) hI hg34 ?_)
            intro w hI
            refine ⟨fun h => absurd h (by decide), ?_⟩
            refine GmT.done (by kernel_rfl) ?_
            refine Qn.then ?_
            obtain ⟨r3, h3, h2⟩ := bindS h2
            refine CodT.meet (fun a w => ∃ (x35 : Int), x35 = r3 ∧ Fr 54 [(3, .map (some b1)), (4, .slice A6 x5.length cp7), (8, .int .i64 x35), (12, .slice A_a0 a0.length c_a0), (13, .int .i64 (a0.length : Int)), (14, .int .i64 x8)] a ∧ Inv w0 Z w (star (pt b1 (mObj dynV20 (fun x : Int => Value.int .i64 x) (mSet (mIdx x22 x9) (wi64 ((mVal (0 : Int) x22 x9) + 1)) (mEnt (0 : Int) x22 x9)))) (star (ownS 3 (cI .i64) 1 A6 cp7 x5) A))) ?_ ?_
            ·
              refine CodT.seq ?_
              refine CodT.regionL [0, 1, 2, 3, 4, 5, 6] (by kernel_rfl) ?_
              refine OpsT.pures (r := [1, 2, 3, 4, 5, 6]) [0] [3, 4, 7, 8, 12, 13, 14, 35] (S' := [(3, .map (some b1)), (4, .slice A6 x5.length cp7), (7, dynV20 x22), (8, .int .i64 (mVal (0 : Int) x22 x9)), (12, .slice A_a0 a0.length c_a0), (13, .int .i64 (a0.length : Int)), (14, .int .i64 x8), (35, dynV20 x22)]) (by kernel_rfl) ?_
              rcases (show x22 = .nil ∨ (∃ z, x22 = .i9 z) ∨ (∃ z, x22 = .i53 z) ∨ (∃ z, x22 = .i54 z) from by cases x22 <;> simp) with hd36 | ⟨z37, hd36⟩ | ⟨z38, hd36⟩ | ⟨z39, hd36⟩
              ·
                simp only [hd36] at h3
                refine OpsT.keep [3, 4, 7, 8, 12, 13, 14, 35] (S' := [(3, .map (some b1)), (4, .slice A6 x5.length cp7), (7, .nilIface), (8, .int .i64 (mVal (0 : Int) x22 x9)), (12, .slice A_a0 a0.length c_a0), (13, .int .i64 (a0.length : Int)), (14, .int .i64 x8), (35, .nilIface)]) (by (try simp only [hd36]); kernel_rfl) ?_
                refine OpsT.pures (r := []) [1, 2, 3, 4, 5, 6] [3, 4, 7, 8, 10, 12, 13, 14] (S' := [(3, .map (some b1)), (4, .slice A6 x5.length cp7), (7, .nilIface), (8, .int .i64 (mVal (0 : Int) x22 x9)), (10, .bool false), (12, .slice A_a0 a0.length c_a0), (13, .int .i64 (a0.length : Int)), (14, .int .i64 x8)]) (by kernel_rfl) ?_
                refine OpsT.done ?_
                refine Qn.then ?_
                refine CodT.seq ?_
                refine CodT.regionL [0, 1] (by kernel_rfl) ?_
                refine OpsT.pures (r := []) [0, 1] [3, 4, 7, 8, 12, 13, 14, 40] (S' := [(3, .map (some b1)), (4, .slice A6 x5.length cp7), (7, .nilIface), (8, .int .i64 (mVal (0 : Int) x22 x9)), (12, .slice A_a0 a0.length c_a0), (13, .int .i64 (a0.length : Int)), (14, .int .i64 x8), (40, .bool true)]) (by kernel_rfl) ?_
                refine OpsT.done ?_
                refine Qn.then ?_
                refine CodT.yes (by kernel_rfl) ?_
                refine CodT.regionL [0] (by kernel_rfl) ?_
                refine OpsT.pures (r := []) [0] [3, 4, 8, 12, 13, 14] (S' := [(3, .map (some b1)), (4, .slice A6 x5.length cp7), (8, .int .i64 0), (12, .slice A_a0 a0.length c_a0), (13, .int .i64 (a0.length : Int)), (14, .int .i64 x8)]) (by kernel_rfl) ?_
                refine OpsT.done ?_
                have e := someS h3
                subst e
                exact Qn.thenJ fun a ha => ⟨0, rfl, ha.keep [3, 4, 8, 12, 13, 14] (by kernel_rfl), hI⟩
              ·
                simp only [hd36] at h3
                refine OpsT.keep [3, 4, 7, 8, 12, 13, 14, 35] (S' := [(3, .map (some b1)), (4, .slice A6 x5.length cp7), (7, .iface 9 (.string z37)), (8, .int .i64 (mVal (0 : Int) x22 x9)), (12, .slice A_a0 a0.length c_a0), (13, .int .i64 (a0.length : Int)), (14, .int .i64 x8), (35, .iface 9 (.string z37))]) (by (try simp only [hd36]); kernel_rfl) ?_
                refine OpsT.pures (r := []) [1, 2, 3, 4, 5, 6] [3, 4, 7, 8, 10, 12, 13, 14] (S' := [(3, .map (some b1)), (4, .slice A6 x5.length cp7), (7, .iface 9 (.string z37)), (8, .int .i64 (mVal (0 : Int) x22 x9)), (10, .bool false), (12, .slice A_a0 a0.length c_a0), (13, .int .i64 (a0.length : Int)), (14, .int .i64 x8)]) (by kernel_rfl) ?_
                refine OpsT.done ?_
                refine Qn.then ?_
                refine CodT.seq ?_
                refine CodT.regionL [0, 1] (by kernel_rfl) ?_
                refine OpsT.pures (r := []) [0, 1] [3, 4, 7, 8, 12, 13, 14, 40] (S' := [(3, .map (some b1)), (4, .slice A6 x5.length cp7), (7, .iface 9 (.string z37)), (8, .int .i64 (mVal (0 : Int) x22 x9)), (12, .slice A_a0 a0.length c_a0), (13, .int .i64 (a0.length : Int)), (14, .int .i64 x8), (40, .bool true)]) (by kernel_rfl) ?_
                refine OpsT.done ?_
                refine Qn.then ?_
                refine CodT.yes (by kernel_rfl) ?_
                refine CodT.regionL [0] (by kernel_rfl) ?_
                refine OpsT.pures (r := []) [0] [3, 4, 8, 12, 13, 14] (S' := [(3, .map (some b1)), (4, .slice A6 x5.length cp7), (8, .int .i64 0), (12, .slice A_a0 a0.length c_a0), (13, .int .i64 (a0.length : Int)), (14, .int .i64 x8)]) (by kernel_rfl) ?_
                refine OpsT.done ?_
                have e := someS h3
                subst e
                exact Qn.thenJ fun a ha => ⟨0, rfl, ha.keep [3, 4, 8, 12, 13, 14] (by kernel_rfl), hI⟩
              ·
                simp only [hd36] at h3
                refine OpsT.keep [3, 4, 7, 8, 12, 13, 14, 35] (S' := [(3, .map (some b1)), (4, .slice A6 x5.length cp7), (7, .iface 53 (.int .i64 z38)), (8, .int .i64 (mVal (0 : Int) x22 x9)), (12, .slice A_a0 a0.length c_a0), (13, .int .i64 (a0.length : Int)), (14, .int .i64 x8), (35, .iface 53 (.int .i64 z38))]) (by (try simp only [hd36]); kernel_rfl) ?_
                refine OpsT.pures (r := []) [1, 2, 3, 4, 5, 6] [3, 4, 7, 8, 10, 12, 13, 14] (S' := [(3, .map (some b1)), (4, .slice A6 x5.length cp7), (7, .iface 53 (.int .i64 z38)), (8, .int .i64 (mVal (0 : Int) x22 x9)), (10, .bool true), (12, .slice A_a0 a0.length c_a0), (13, .int .i64 (a0.length : Int)), (14, .int .i64 x8)]) (by kernel_rfl) ?_
                refine OpsT.done ?_
                refine Qn.then ?_
                refine CodT.seq ?_
                refine CodT.regionL [0, 1] (by kernel_rfl) ?_
                refine OpsT.pures (r := []) [0, 1] [3, 4, 7, 8, 12, 13, 14, 40] (S' := [(3, .map (some b1)), (4, .slice A6 x5.length cp7), (7, .iface 53 (.int .i64 z38)), (8, .int .i64 (mVal (0 : Int) x22 x9)), (12, .slice A_a0 a0.length c_a0), (13, .int .i64 (a0.length : Int)), (14, .int .i64 x8), (40, .bool false)]) (by kernel_rfl) ?_
                refine OpsT.done ?_
                refine Qn.then ?_
                refine CodT.no (by kernel_rfl) ?_
                refine CodT.regionL [0, 1, 2, 3, 4, 5, 6, 7] (by kernel_rfl) ?_
                refine OpsT.pures (r := [5, 6, 7]) [0, 1, 2, 3, 4] [3, 4, 12, 13, 14, 41, 42, 45] (S' := [(3, .map (some b1)), (4, .slice A6 x5.length cp7), (12, .slice A_a0 a0.length c_a0), (13, .int .i64 (a0.length : Int)), (14, .int .i64 x8), (41, .int .i64 (mVal (0 : Int) x22 x9)), (42, .map (some b1)), (45, .iface 53 (.int .i64 z38))]) (by kernel_rfl) ?_
                refine OpsT.cons (Does.yi (Yl.lookup (d := 46) (mt := 52) (b := b1) (kv := dynV20) (vv := (fun x : Int => Value.int .i64 x)) (m := mSet (mIdx x22 x9) (wi64 ((mVal (0 : Int) x22 x9) + 1)) (mEnt (0 : Int) x22 x9)) (k := (Dyn20.i53 z38)) (ok := false) (r := .int .i64 (mVal (0 : Int) (Dyn20.i53 z38) (mSet (mIdx x22 x9) (wi64 ((mVal (0 : Int) x22 x9) + 1)) (mEnt (0 : Int) x22 x9)))) (by kernel_rfl) kt20 Go.Proofs.Try.underlying52 (0 : Int) (fun w => by kernel_rfl) (fun w hC => hC.mono (ent_refl _)) rfl) hI ?_)
                refine OpsT.pures (r := []) [6, 7] [3, 4, 8, 12, 13, 14] (S' := [(3, .map (some b1)), (4, .slice A6 x5.length cp7), (8, .int .i64 (if (mVal (0 : Int) (Dyn20.i53 z38) (mSet (mIdx x22 x9) (wi64 ((mVal (0 : Int) x22 x9) + 1)) (mEnt (0 : Int) x22 x9))) < (mVal (0 : Int) x22 x9) then mVal (0 : Int) (Dyn20.i53 z38) (mSet (mIdx x22 x9) (wi64 ((mVal (0 : Int) x22 x9) + 1)) (mEnt (0 : Int) x22 x9)) else mVal (0 : Int) x22 x9)), (12, .slice A_a0 a0.length c_a0), (13, .int .i64 (a0.length : Int)), (14, .int .i64 x8)]) (by kernel_rfl) ?_
                refine OpsT.done ?_
                have e := someS h3
                subst e
                exact Qn.thenJ fun a ha => ⟨if (mVal (0 : Int) (Dyn20.i53 z38) (mSet (mIdx x22 x9) (wi64 ((mVal (0 : Int) x22 x9) + 1)) (mEnt (0 : Int) x22 x9))) < (mVal (0 : Int) x22 x9) then mVal (0 : Int) (Dyn20.i53 z38) (mSet (mIdx x22 x9) (wi64 ((mVal (0 : Int) x22 x9) + 1)) (mEnt (0 : Int) x22 x9)) else mVal (0 : Int) x22 x9, (by simp only [hd36]), ha.keep [3, 4, 8, 12, 13, 14] (by kernel_rfl), hI⟩
              ·
                simp only [hd36] at h3
                refine OpsT.keep [3, 4, 7, 8, 12, 13, 14, 35] (S' := [(3, .map (some b1)), (4, .slice A6 x5.length cp7), (7, .iface 54 (.string z39)), (8, .int .i64 (mVal (0 : Int) x22 x9)), (12, .slice A_a0 a0.length c_a0), (13, .int .i64 (a0.length : Int)), (14, .int .i64 x8), (35, .iface 54 (.string z39))]) (by (try simp only [hd36]); kernel_rfl) ?_
                refine OpsT.pures (r := []) [1, 2, 3, 4, 5, 6] [3, 4, 7, 8, 10, 12, 13, 14] (S' := [(3, .map (some b1)), (4, .slice A6 x5.length cp7), (7, .iface 54 (.string z39)), (8, .int .i64 (mVal (0 : Int) x22 x9)), (10, .bool false), (12, .slice A_a0 a0.length c_a0), (13, .int .i64 (a0.length : Int)), (14, .int .i64 x8)]) (by kernel_rfl) ?_
                refine OpsT.done ?_
                refine Qn.then ?_
                refine CodT.seq ?_
                refine CodT.regionL [0, 1] (by kernel_rfl) ?_
                refine OpsT.pures (r := []) [0, 1] [3, 4, 7, 8, 12, 13, 14, 40] (S' := [(3, .map (some b1)), (4, .slice A6 x5.length cp7), (7, .iface 54 (.string z39)), (8, .int .i64 (mVal (0 : Int) x22 x9)), (12, .slice A_a0 a0.length c_a0), (13, .int .i64 (a0.length : Int)), (14, .int .i64 x8), (40, .bool true)]) (by kernel_rfl) ?_
                refine OpsT.done ?_
                refine Qn.then ?_
                refine CodT.yes (by kernel_rfl) ?_
                refine CodT.regionL [0] (by kernel_rfl) ?_
                refine OpsT.pures (r := []) [0] [3, 4, 8, 12, 13, 14] (S' := [(3, .map (some b1)), (4, .slice A6 x5.length cp7), (8, .int .i64 0), (12, .slice A_a0 a0.length c_a0), (13, .int .i64 (a0.length : Int)), (14, .int .i64 x8)]) (by kernel_rfl) ?_
                refine OpsT.done ?_
                have e := someS h3
                subst e
                exact Qn.thenJ fun a ha => ⟨0, rfl, ha.keep [3, 4, 8, 12, 13, 14] (by kernel_rfl), hI⟩
            ·
              rintro a w ⟨x35, rfl, ha, hI⟩
              try dsimp only at h2
              refine CodT.of ?_ ha
              refine CodT.regionL [0, 1, 2, 3, 4] (by kernel_rfl) ?_
              refine OpsT.pures (r := [2, 3, 4]) [0, 1] [3, 12, 13, 14, 48, 49] (S' := [(3, .map (some b1)), (12, .slice A_a0 a0.length c_a0), (13, .int .i64 (a0.length : Int)), (14, .int .i64 x8), (48, .slice A6 x5.length cp7), (49, .int .i64 x35)]) (by kernel_rfl) ?_
              refine OpsT.cons (Does.buildSlice (en := (cI .i64)) (d := 50) (n := 1) (T := 34) (ps := [(0, .int .i64 x35)]) ([x35] : List Int) (by kernel_rfl) Go.Proofs.Try.underlying34 ty3 (by kernel_rfl) (by kernel_rfl) (by kernel_rfl) (by kernel_rfl) (len_all (fun _ => rfl)) hI ?_)
              intro b40 w hI
              obtain ⟨hg41, h2⟩ := guardS h2
              have hI := hI.mono (pick3 _ _ _ _)
              refine OpsT.cons (Does.append (d := 51) (t := 34) (tx := 34) (ty := 34) (ys := x5) (zs := ([x35] : List Int)) (x := .slice (some ⟨b40, 0, none⟩) (([x35] : List Int).length) 1) (by kernel_rfl) Go.Proofs.Try.underlying34 ty3 (by kernel_rfl) hI (src_own Go.Proofs.Try.underlying34 (hI.mono (pick2 _ _ _)) (one_flat _ (fun _ => rfl))) (ownS_facts (hI.mono (pick2 _ _ _))).2.2 (by unfold LIM at hg41; omega) hg41 ?_)
              intro A42 cp43 w hI
              refine OpsT.pures (r := []) [4] [3, 4, 12, 13, 14] (S' := [(3, .map (some b1)), (4, .slice A42 ((x5 ++ ([x35] : List Int)).length) cp43), (12, .slice A_a0 a0.length c_a0), (13, .int .i64 (a0.length : Int)), (14, .int .i64 x8)]) (by kernel_rfl) ?_
              refine OpsT.done ?_
              refine Qn.block_normal ?_
              have hI := hI.mono (pick2 _ _ _)
              have hI := hI.drop
              have e := someS h2
              subst e
              exact Qn.thenJ fun a ha => ⟨x5 ++ ([x35] : List Int), mSet (mIdx x22 x9) (wi64 ((mVal (0 : Int) x22 x9) + 1)) (mEnt (0 : Int) x22 x9), A42, cp43, rfl, ha.keep [3, 4, 12, 13, 14] (by kernel_rfl), hI⟩
      ·
        rintro a w ⟨x11, x14, A12, cp13, rfl, ha, hI⟩
        try dsimp only at h1
        refine CodT.of ?_ ha
        refine CodT.regionL [0, 1] (by kernel_rfl) ?_
        refine OpsT.pures (r := []) [0, 1] [3, 4, 12, 13, 14] (S' := [(3, .map (some b1)), (4, .slice A12 x11.length cp13), (12, .slice A_a0 a0.length c_a0), (13, .int .i64 (a0.length : Int)), (14, .int .i64 (wi64 (x8 + 1)))]) (by kernel_rfl) ?_
        refine OpsT.done ?_
        exact Qn.thenJ fun a ha => ⟨k, Nat.lt_succ_self k, x11, wi64 (x8 + 1), x14, A12, cp13, h1, ha.keep [3, 4, 12, 13, 14] (by kernel_rfl), hI⟩
    · rw [if_neg hb10] at h1
      refine CodT.no' (b := decide (x8 < (a0.length : Int))) (by kernel_rfl) (by simpa using hb10) ?_
      refine CodT.exit ?_
      refine Qn.exit_then ?_
      refine Qn.exit_then ?_
      refine Qn.block ?_
      have hI := hI.mono (pick2 _ _ _)
      have hI := hI.drop
      have e := someS h1
      subst e
      exact Qn.thenJ fun a ha => ⟨x5, A6, cp7, rfl, ha.keep [4] (by kernel_rfl), hI⟩
  ·
    rintro a w ⟨x2, A3, cp4, rfl, ha, hI⟩
    try dsimp only at h0
    refine Qn.of ?_ ha
    refine Qn.then ?_
    refine CodT.seq ?_
    refine CodT.regionL [0, 1] (by kernel_rfl) ?_
    refine OpsT.pures (r := []) [0, 1] [2] (S' := [(2, .slice A3 x2.length cp4)]) (by kernel_rfl) ?_
    refine OpsT.done ?_
    refine Qn.then ?_
    refine CodT.ret ?_
    have e := someS h0
    subst e
    refine Qn.keep [2] (S' := [(2, .slice A3 x2.length cp4)]) (by kernel_rfl) ?_
    exact post_ret (v := .slice A3 x2.length cp4) (fun a ha => RunRes.run (vs := [.slice A3 x2.length cp4]) (.tmp (t := 2) (by kernel_rfl) .nil) ha (by kernel_rfl)) ⟨A3, cp4, rfl, hI⟩
set_option maxRecDepth 100000 in
set_option maxHeartbeats 4000000 in
/-- internal/strconv.small -/
theorem c49 (w0 w : World) (Z : Hp) (A : HP) (hI : Inv w0 Z w A) (hT : Tabs Z) (a0 : Int) (r : ByteArray) (h0 : strconv_small a0 = some r) :
    Calls prog 49 #[.int .i64 a0] w (fun e w' => e = .returned (.string r) ∧ Inv w0 Z w' A) := by
  have e4 := calls_intro (R := (fun e w' => e = .returned (.string r) ∧ Inv w0 Z w' A)) (w := w) (args := [.int .i64 a0]) (fn := Go.Proofs.Try.f49) 15 Go.Proofs.Try.func49 (by rfl) Go.Proofs.Try.ntmps49 (by kernel_rfl)
  refine e4 ?_
  clear e4
  unfold strconv_small at h0
  refine CodT.seq ?_
  refine CodT.regionL [0] (by kernel_rfl) ?_
  refine OpsT.pures (r := []) [0] [0] (S' := [(0, .int .i64 a0)]) (by kernel_rfl) ?_
  refine OpsT.done ?_
  refine Qn.then ?_
  refine CodT.seq ?_
  refine CodT.seq ?_
  refine CodT.regionL [0, 1] (by kernel_rfl) ?_
  refine OpsT.pures (r := []) [0, 1] [0, 4] (S' := [(0, .int .i64 a0), (4, .bool (decide (a0 < 10)))]) (by kernel_rfl) ?_
  refine OpsT.done ?_
  refine Qn.then ?_
  by_cases hb1 : (decide (a0 < 10)) = true
  · rw [if_pos hb1] at h0
    refine CodT.yes' (b := decide (a0 < 10)) (by kernel_rfl) hb1 ?_
    refine CodT.seq ?_
    refine CodT.regionL [0, 1, 2, 3, 4] (by kernel_rfl) ?_
    refine OpsT.pures (r := [3, 4]) [0, 1, 2] [5, 7] (S' := [(5, .int .i64 a0), (7, .int .i64 (wi64 (a0 + 1)))]) (by kernel_rfl) ?_
    obtain ⟨hg2, h0⟩ := guardS h0
    refine OpsT.cons (Does.yi (Yl.sliceStr11 (d := 8) (T := 9) (s := (⟨#[48, 49, 50, 51, 52, 53, 54, 55, 56, 57, 97, 98, 99, 100, 101, 102, 103, 104, 105, 106, 107, 108, 109, 110, 111, 112, 113, 114, 115, 116, 117, 118, 119, 120, 121, 122]⟩ : ByteArray)) (lo := a0) (hi := wi64 (a0 + 1)) (by kernel_rfl) Go.Proofs.Try.underlying9 hg2) hI ?_)
    refine OpsT.pures (r := []) [4] [2] (S' := [(2, .string (sx (⟨#[48, 49, 50, 51, 52, 53, 54, 55, 56, 57, 97, 98, 99, 100, 101, 102, 103, 104, 105, 106, 107, 108, 109, 110, 111, 112, 113, 114, 115, 116, 117, 118, 119, 120, 121, 122]⟩ : ByteArray) a0 (wi64 (a0 + 1))))]) (by kernel_rfl) ?_
    refine OpsT.done ?_
    refine Qn.then ?_
    refine CodT.ret ?_
    refine Qn.ret_then ?_
    have e := someS h0
    subst e
    refine Qn.keep [2] (S' := [(2, .string (sx (⟨#[48, 49, 50, 51, 52, 53, 54, 55, 56, 57, 97, 98, 99, 100, 101, 102, 103, 104, 105, 106, 107, 108, 109, 110, 111, 112, 113, 114, 115, 116, 117, 118, 119, 120, 121, 122]⟩ : ByteArray) a0 (wi64 (a0 + 1))))]) (by kernel_rfl) ?_
    exact post_ret (v := .string (sx (⟨#[48, 49, 50, 51, 52, 53, 54, 55, 56, 57, 97, 98, 99, 100, 101, 102, 103, 104, 105, 106, 107, 108, 109, 110, 111, 112, 113, 114, 115, 116, 117, 118, 119, 120, 121, 122]⟩ : ByteArray) a0 (wi64 (a0 + 1)))) (fun a ha => RunRes.run (vs := [.string (sx (⟨#[48, 49, 50, 51, 52, 53, 54, 55, 56, 57, 97, 98, 99, 100, 101, 102, 103, 104, 105, 106, 107, 108, 109, 110, 111, 112, 113, 114, 115, 116, 117, 118, 119, 120, 121, 122]⟩ : ByteArray) a0 (wi64 (a0 + 1)))]) (.tmp (t := 2) (by kernel_rfl) .nil) ha (by kernel_rfl)) ⟨rfl, hI⟩
  · rw [if_neg hb1] at h0
    refine CodT.no' (b := decide (a0 < 10)) (by kernel_rfl) (by simpa using hb1) ?_
    refine CodT.skip ?_
    refine Qn.then ?_
    refine CodT.seq ?_
    refine CodT.regionL [0, 1, 2, 3, 4, 5, 6] (by kernel_rfl) ?_
    refine OpsT.pures (r := [5, 6]) [0, 1, 2, 3, 4] [10, 13] (S' := [(10, .int .i64 (wi64 (a0 * 2))), (13, .int .i64 (wi64 ((wi64 (a0 * 2)) + 2)))]) (by kernel_rfl) ?_
    obtain ⟨hg3, h0⟩ := guardS h0
    refine OpsT.cons (Does.yi (Yl.sliceStr11 (d := 14) (T := 9) (s := longT0) (lo := wi64 (a0 * 2)) (hi := wi64 ((wi64 (a0 * 2)) + 2)) (by kernel_rfl) Go.Proofs.Try.underlying9 hg3) hI ?_)
    refine OpsT.pures (r := []) [6] [2] (S' := [(2, .string (sx longT0 (wi64 (a0 * 2)) (wi64 ((wi64 (a0 * 2)) + 2))))]) (by kernel_rfl) ?_
    refine OpsT.done ?_
    refine Qn.then ?_
    refine CodT.ret ?_
    have e := someS h0
    subst e
    refine Qn.keep [2] (S' := [(2, .string (sx longT0 (wi64 (a0 * 2)) (wi64 ((wi64 (a0 * 2)) + 2))))]) (by kernel_rfl) ?_
    exact post_ret (v := .string (sx longT0 (wi64 (a0 * 2)) (wi64 ((wi64 (a0 * 2)) + 2)))) (fun a ha => RunRes.run (vs := [.string (sx longT0 (wi64 (a0 * 2)) (wi64 ((wi64 (a0 * 2)) + 2)))]) (.tmp (t := 2) (by kernel_rfl) .nil) ha (by kernel_rfl)) ⟨rfl, hI⟩
set_option maxRecDepth 100000 in
set_option maxHeartbeats 4000000 in
/-- math/bits.Len64 -/
theorem c54 (w0 w : World) (Z : Hp) (A : HP) (hI : Inv w0 Z w A) (hT : Tabs Z) (a0 : Int) (r : Int) (h0 : bits_Len64 a0 = some r) :
    Calls prog 54 #[.int .u64 a0] w (fun e w' => e = .returned (.int .i64 r) ∧ Inv w0 Z w' A) := by
  have e4 := calls_intro (R := (fun e w' => e = .returned (.int .i64 r) ∧ Inv w0 Z w' A)) (w := w) (args := [.int .u64 a0]) (fn := Go.Proofs.Try.f54) 25 Go.Proofs.Try.func54 (by rfl) Go.Proofs.Try.ntmps54 (by kernel_rfl)
  refine e4 ?_
  clear e4
  unfold bits_Len64 at h0
  refine CodT.seq ?_
  refine CodT.regionL [0] (by kernel_rfl) ?_
  refine OpsT.pures (r := []) [0] [0, 2] (S' := [(0, .int .u64 a0), (2, .int .i64 0)]) (by kernel_rfl) ?_
  refine OpsT.done ?_
  refine Qn.then ?_
  obtain ⟨r1, h1, h0⟩ := bindS h0
  refine CodT.meet (fun a w => ∃ (x1 : Int) (x2 : Int), (x1, x2) = r1 ∧ Fr 25 [(0, .int .u64 x1), (2, .int .i64 x2)] a ∧ Inv w0 Z w A) ?_ ?_
  ·
    refine CodT.seq ?_
    refine CodT.regionL [0, 1] (by kernel_rfl) ?_
    refine OpsT.pures (r := []) [0, 1] [0, 2, 4] (S' := [(0, .int .u64 a0), (2, .int .i64 0), (4, .bool (decide (a0 ≥ 4294967296)))]) (by kernel_rfl) ?_
    refine OpsT.done ?_
    refine Qn.then ?_
    by_cases hb3 : (decide (a0 ≥ 4294967296)) = true
    · rw [if_pos hb3] at h1
      refine CodT.yes' (b := decide (a0 ≥ 4294967296)) (by kernel_rfl) hb3 ?_
      refine CodT.seq ?_
      refine CodT.regionL [0, 1, 2] (by kernel_rfl) ?_
      refine OpsT.pures (r := []) [0, 1, 2] [0] (S' := [(0, .int .u64 (bShr .u64 a0 32))]) (by kernel_rfl) ?_
      refine OpsT.done ?_
      refine Qn.then ?_
      refine CodT.regionL [0] (by kernel_rfl) ?_
      refine OpsT.pures (r := []) [0] [0, 2] (S' := [(0, .int .u64 (bShr .u64 a0 32)), (2, .int .i64 32)]) (by kernel_rfl) ?_
      refine OpsT.done ?_
      have e := someS h1
      subst e
      exact Qn.thenJ fun a ha => ⟨bShr .u64 a0 32, 32, rfl, ha.keep [0, 2] (by kernel_rfl), hI⟩
    · rw [if_neg hb3] at h1
      refine CodT.no' (b := decide (a0 ≥ 4294967296)) (by kernel_rfl) (by simpa using hb3) ?_
      refine CodT.skip ?_
      have e := someS h1
      subst e
      exact Qn.thenJ fun a ha => ⟨a0, 0, rfl, ha.keep [0, 2] (by kernel_rfl), hI⟩
  ·
    rintro a w ⟨x1, x2, rfl, ha, hI⟩
    try dsimp only at h0
    refine CodT.of ?_ ha
    obtain ⟨r1, h1, h0⟩ := bindS h0
    refine CodT.meet (fun a w => ∃ (x4 : Int) (x5 : Int), (x4, x5) = r1 ∧ Fr 25 [(0, .int .u64 x4), (2, .int .i64 x5)] a ∧ Inv w0 Z w A) ?_ ?_
    ·
      refine CodT.seq ?_
      refine CodT.regionL [0, 1] (by kernel_rfl) ?_
      refine OpsT.pures (r := []) [0, 1] [0, 2, 8] (S' := [(0, .int .u64 x1), (2, .int .i64 x2), (8, .bool (decide (x1 ≥ 65536)))]) (by kernel_rfl) ?_
      refine OpsT.done ?_
      refine Qn.then ?_
      by_cases hb6 : (decide (x1 ≥ 65536)) = true
      · rw [if_pos hb6] at h1
        refine CodT.yes' (b := decide (x1 ≥ 65536)) (by kernel_rfl) hb6 ?_
        refine CodT.seq ?_
        refine CodT.regionL [0, 1, 2] (by kernel_rfl) ?_
        refine OpsT.pures (r := []) [0, 1, 2] [0, 2] (S' := [(0, .int .u64 (bShr .u64 x1 16)), (2, .int .i64 x2)]) (by kernel_rfl) ?_
        refine OpsT.done ?_
        refine Qn.then ?_
        refine CodT.regionL [0, 1, 2] (by kernel_rfl) ?_
        refine OpsT.pures (r := []) [0, 1, 2] [0, 2] (S' := [(0, .int .u64 (bShr .u64 x1 16)), (2, .int .i64 (wi64 (x2 + 16)))]) (by kernel_rfl) ?_
        refine OpsT.done ?_
        have e := someS h1
        subst e
        exact Qn.thenJ fun a ha => ⟨bShr .u64 x1 16, wi64 (x2 + 16), rfl, ha.keep [0, 2] (by kernel_rfl), hI⟩
      · rw [if_neg hb6] at h1
        refine CodT.no' (b := decide (x1 ≥ 65536)) (by kernel_rfl) (by simpa using hb6) ?_
        refine CodT.skip ?_
        have e := someS h1
        subst e
        exact Qn.thenJ fun a ha => ⟨x1, x2, rfl, ha.keep [0, 2] (by kernel_rfl), hI⟩
    ·
      rintro a w ⟨x4, x5, rfl, ha, hI⟩
      try dsimp only at h0
      refine CodT.of ?_ ha
      obtain ⟨r1, h1, h0⟩ := bindS h0
      refine CodT.meet (fun a w => ∃ (x7 : Int) (x8 : Int), (x7, x8) = r1 ∧ Fr 25 [(0, .int .u64 x7), (2, .int .i64 x8)] a ∧ Inv w0 Z w A) ?_ ?_
      ·
        refine CodT.seq ?_
        refine CodT.regionL [0, 1] (by kernel_rfl) ?_
        refine OpsT.pures (r := []) [0, 1] [0, 2, 14] (S' := [(0, .int .u64 x4), (2, .int .i64 x5), (14, .bool (decide (x4 ≥ 256)))]) (by kernel_rfl) ?_
        refine OpsT.done ?_
        refine Qn.then ?_
        by_cases hb9 : (decide (x4 ≥ 256)) = true
        · rw [if_pos hb9] at h1
          refine CodT.yes' (b := decide (x4 ≥ 256)) (by kernel_rfl) hb9 ?_
          refine CodT.seq ?_
          refine CodT.regionL [0, 1, 2] (by kernel_rfl) ?_
          refine OpsT.pures (r := []) [0, 1, 2] [0, 2] (S' := [(0, .int .u64 (bShr .u64 x4 8)), (2, .int .i64 x5)]) (by kernel_rfl) ?_
          refine OpsT.done ?_
          refine Qn.then ?_
          refine CodT.regionL [0, 1, 2] (by kernel_rfl) ?_
          refine OpsT.pures (r := []) [0, 1, 2] [0, 2] (S' := [(0, .int .u64 (bShr .u64 x4 8)), (2, .int .i64 (wi64 (x5 + 8)))]) (by kernel_rfl) ?_
          refine OpsT.done ?_
          have e := someS h1
          subst e
          exact Qn.thenJ fun a ha => ⟨bShr .u64 x4 8, wi64 (x5 + 8), rfl, ha.keep [0, 2] (by kernel_rfl), hI⟩
        · rw [if_neg hb9] at h1
          refine CodT.no' (b := decide (x4 ≥ 256)) (by kernel_rfl) (by simpa using hb9) ?_
          refine CodT.skip ?_
          have e := someS h1
          subst e
          exact Qn.thenJ fun a ha => ⟨x4, x5, rfl, ha.keep [0, 2] (by kernel_rfl), hI⟩
      ·
        rintro a w ⟨x7, x8, rfl, ha, hI⟩
        try dsimp only at h0
        refine CodT.of ?_ ha
        refine CodT.seq ?_
        refine CodT.regionL [0, 1, 2, 3, 4, 5, 6] (by kernel_rfl) ?_
        refine OpsT.pures (r := [3, 4, 5, 6]) [0, 1, 2] [19, 21] (S' := [(19, .int .i64 x8), (21, .int .u8 (wu8 x7))]) (by kernel_rfl) ?_
        obtain ⟨hg10, h0⟩ := guardS h0
        refine OpsT.cons (Does.yi (Yl.indexStr (d := 22) (T := 9) (k := .u8) (j := wu8 x7) (s := longT1) (by kernel_rfl) Go.Proofs.Try.underlying9 hg10.1 hg10.2) hI ?_)
        refine OpsT.pures (r := []) [4, 5, 6] [2] (S' := [(2, .int .i64 (wi64 (x8 + (wi64 (bt longT1 (wu8 x7))))))]) (by kernel_rfl) ?_
        refine OpsT.done ?_
        refine Qn.then ?_
        refine CodT.ret ?_
        have e := someS h0
        subst e
        refine Qn.keep [2] (S' := [(2, .int .i64 (wi64 (x8 + (wi64 (bt longT1 (wu8 x7))))))]) (by kernel_rfl) ?_
        exact post_ret (v := .int .i64 (wi64 (x8 + (wi64 (bt longT1 (wu8 x7)))))) (fun a ha => RunRes.run (vs := [.int .i64 (wi64 (x8 + (wi64 (bt longT1 (wu8 x7)))))]) (.tmp (t := 2) (by kernel_rfl) .nil) ha (by kernel_rfl)) ⟨rfl, hI⟩
set_option maxRecDepth 100000 in
set_option maxHeartbeats 4000000 in
/-- internal/strconv.log10Pow2 -/
theorem c53 (w0 w : World) (Z : Hp) (A : HP) (hI : Inv w0 Z w A) (hT : Tabs Z) (a0 : Int) (r : Int) (h0 : strconv_log10Pow2 a0 = some r) :
    Calls prog 53 #[.int .i64 a0] w (fun e w' => e = .returned (.int .i64 r) ∧ Inv w0 Z w' A) := by
  have e4 := calls_intro (R := (fun e w' => e = .returned (.int .i64 r) ∧ Inv w0 Z w' A)) (w := w) (args := [.int .i64 a0]) (fn := Go.Proofs.Try.f53) 6 Go.Proofs.Try.func53 (by rfl) Go.Proofs.Try.ntmps53 (by kernel_rfl)
  refine e4 ?_
  clear e4
  unfold strconv_log10Pow2 at h0
  refine CodT.seq ?_
  refine CodT.regionL [0] (by kernel_rfl) ?_
  refine OpsT.pures (r := []) [0] [0] (S' := [(0, .int .i64 a0)]) (by kernel_rfl) ?_
  refine OpsT.done ?_
  refine Qn.then ?_
  refine CodT.seq ?_
  refine CodT.regionL [0, 1, 2, 3] (by kernel_rfl) ?_
  refine OpsT.pures (r := []) [0, 1, 2, 3] [2] (S' := [(2, .int .i64 (bShr .i64 (wi64 (a0 * 78913)) 18))]) (by kernel_rfl) ?_
  refine OpsT.done ?_
  refine Qn.then ?_
  refine CodT.ret ?_
  have e := someS h0
  subst e
  refine Qn.keep [2] (S' := [(2, .int .i64 (bShr .i64 (wi64 (a0 * 78913)) 18))]) (by kernel_rfl) ?_
  exact post_ret (v := .int .i64 (bShr .i64 (wi64 (a0 * 78913)) 18)) (fun a ha => RunRes.run (vs := [.int .i64 (bShr .i64 (wi64 (a0 * 78913)) 18)]) (.tmp (t := 2) (by kernel_rfl) .nil) ha (by kernel_rfl)) ⟨rfl, hI⟩
set_option maxRecDepth 100000 in
set_option maxHeartbeats 4000000 in
/-- internal/strconv.bool2[int] -/
theorem c55 (w0 w : World) (Z : Hp) (A : HP) (hI : Inv w0 Z w A) (hT : Tabs Z) (a0 : Bool) (r : Int) (h0 : strconv_bool2_int a0 = some r) :
    Calls prog 55 #[.bool a0] w (fun e w' => e = .returned (.int .i64 r) ∧ Inv w0 Z w' A) := by
  have e4 := calls_intro (R := (fun e w' => e = .returned (.int .i64 r) ∧ Inv w0 Z w' A)) (w := w) (args := [.bool a0]) (fn := Go.Proofs.Try.f55) 4 Go.Proofs.Try.func55 (by rfl) Go.Proofs.Try.ntmps55 (by kernel_rfl)
  refine e4 ?_
  clear e4
  unfold strconv_bool2_int at h0
  refine CodT.seq ?_
  refine CodT.regionL [0] (by kernel_rfl) ?_
  refine OpsT.pures (r := []) [0] [0] (S' := [(0, .bool a0)]) (by kernel_rfl) ?_
  refine OpsT.done ?_
  refine Qn.then ?_
  refine CodT.seq ?_
  refine CodT.seq ?_
  refine CodT.regionL [0] (by kernel_rfl) ?_
  refine OpsT.pures (r := []) [0] [3] (S' := [(3, .bool a0)]) (by kernel_rfl) ?_
  refine OpsT.done ?_
  refine Qn.then ?_
  by_cases hb1 : a0 = true
  · rw [if_pos hb1] at h0
    refine CodT.yes' (b := a0) (by kernel_rfl) hb1 ?_
    refine CodT.seq ?_
    refine CodT.regionL [0] (by kernel_rfl) ?_
    refine OpsT.pures (r := []) [0] [2] (S' := [(2, .int .i64 1)]) (by kernel_rfl) ?_
    refine OpsT.done ?_
    refine Qn.then ?_
    refine CodT.ret ?_
    refine Qn.ret_then ?_
    have e := someS h0
    subst e
    refine Qn.keep [2] (S' := [(2, .int .i64 1)]) (by kernel_rfl) ?_
    exact post_ret (v := .int .i64 1) (fun a ha => RunRes.run (vs := [.int .i64 1]) (.tmp (t := 2) (by kernel_rfl) .nil) ha (by kernel_rfl)) ⟨rfl, hI⟩
  · rw [if_neg hb1] at h0
    refine CodT.no' (b := a0) (by kernel_rfl) (by simpa using hb1) ?_
    refine CodT.skip ?_
    refine Qn.then ?_
    refine CodT.seq ?_
    refine CodT.regionL [0] (by kernel_rfl) ?_
    refine OpsT.pures (r := []) [0] [2] (S' := [(2, .int .i64 0)]) (by kernel_rfl) ?_
    refine OpsT.done ?_
    refine Qn.then ?_
    refine CodT.ret ?_
    have e := someS h0
    subst e
    refine Qn.keep [2] (S' := [(2, .int .i64 0)]) (by kernel_rfl) ?_
    exact post_ret (v := .int .i64 0) (fun a ha => RunRes.run (vs := [.int .i64 0]) (.tmp (t := 2) (by kernel_rfl) .nil) ha (by kernel_rfl)) ⟨rfl, hI⟩
set_option maxRecDepth 100000 in
set_option maxHeartbeats 4000000 in
/-- internal/strconv.numDigits -/
theorem c50 (w0 w : World) (Z : Hp) (A : HP) (hI : Inv w0 Z w A) (hT : Tabs Z) (a0 : Int) (r : Int) (h0 : strconv_numDigits a0 = some r) :
    Calls prog 50 #[.int .u64 a0] w (fun e w' => e = .returned (.int .i64 r) ∧ Inv w0 Z w' A) := by
  have e4 := calls_intro (R := (fun e w' => e = .returned (.int .i64 r) ∧ Inv w0 Z w' A)) (w := w) (args := [.int .u64 a0]) (fn := Go.Proofs.Try.f50) 15 Go.Proofs.Try.func50 (by rfl) Go.Proofs.Try.ntmps50 (by kernel_rfl)
  refine e4 ?_
  clear e4
  unfold strconv_numDigits at h0
  refine CodT.seq ?_
  refine CodT.regionL [0] (by kernel_rfl) ?_
  refine OpsT.pures (r := []) [0] [0] (S' := [(0, .int .u64 a0)]) (by kernel_rfl) ?_
  refine OpsT.done ?_
  refine Qn.then ?_
  refine CodT.seq ?_
  refine CodT.regionL [0, 1, 2, 3] (by kernel_rfl) ?_
  refine OpsT.pures (r := [1, 2, 3]) [0] [0, 4] (S' := [(0, .int .u64 a0), (4, .int .u64 a0)]) (by kernel_rfl) ?_
  obtain ⟨y2, hc1, h0⟩ := bindS h0
  try dsimp only at h0
  refine OpsT.cons (Does.call (d := some 5) (n := 54) (vs := [.int .u64 a0]) (by kernel_rfl) en54 (c54 w0 w _ _ hI hT a0 _ hc1) ?_)
  rintro e w ⟨rfl, hI⟩
  refine ⟨_, rfl, ?_⟩
  obtain ⟨y4, hc3, h0⟩ := bindS h0
  try dsimp only at h0
  refine OpsT.cons (Does.call (d := some 6) (n := 53) (vs := [.int .i64 y2]) (by kernel_rfl) en53 (c53 w0 w _ _ hI hT y2 _ hc3) ?_)
  rintro e w ⟨rfl, hI⟩
  refine ⟨_, rfl, ?_⟩
  refine OpsT.pures (r := []) [3] [0, 3] (S' := [(0, .int .u64 a0), (3, .int .i64 y4)]) (by kernel_rfl) ?_
  refine OpsT.done ?_
  refine Qn.then ?_
  refine CodT.seq ?_
  refine CodT.regionL [0, 1, 2, 3, 4, 5, 6, 7, 8] (by kernel_rfl) ?_
  refine OpsT.pures (r := [3, 4, 5, 6, 7, 8]) [0, 1, 2] [7, 8, 9] (S' := [(7, .int .i64 y4), (8, .int .u64 a0), (9, .int .i64 y4)]) (by kernel_rfl) ?_
  obtain ⟨hg5, h0⟩ := guardS h0
  obtain ⟨hr6, hl7⟩ := RdS.getC hT.1 (n := 20) hT.2.1 hg5.1 hg5.2
  refine OpsT.cons (Does.yi (Yl.indexArr (d := 10) (T := 104) (k := .i64) (j := y4) (g := 0) (o := 0) (by kernel_rfl) Go.Proofs.Try.underlying104 ty97 hg5.1 hg5.2) hI ?_)
  refine OpsT.cons (Does.yi (Yl.load (d := 11) (T := 97) (v := .int .u64 (gt tab0 y4)) (by kernel_rfl) (ldR ty97 (v := .int .u64 (gt tab0 y4)) 0 (fun w hC => hr6 w0 w _ hC) (by kernel_rfl))) hI ?_)
  refine OpsT.pures (r := [6, 7, 8]) [5] [7, 12] (S' := [(7, .int .i64 y4), (12, .bool (decide (a0 ≥ (gt tab0 y4))))]) (by kernel_rfl) ?_
  obtain ⟨y9, hc8, h0⟩ := bindS h0
  try dsimp only at h0
  refine OpsT.cons (Does.call (d := some 13) (n := 55) (vs := [.bool (decide (a0 ≥ (gt tab0 y4)))]) (by kernel_rfl) en55 (c55 w0 w _ _ hI hT (decide (a0 ≥ (gt tab0 y4))) _ hc8) ?_)
  rintro e w ⟨rfl, hI⟩
  refine ⟨_, rfl, ?_⟩
  refine OpsT.pures (r := []) [7, 8] [2] (S' := [(2, .int .i64 (wi64 (y4 + y9)))]) (by kernel_rfl) ?_
  refine OpsT.done ?_
  refine Qn.then ?_
  refine CodT.ret ?_
  have e := someS h0
  subst e
  refine Qn.keep [2] (S' := [(2, .int .i64 (wi64 (y4 + y9)))]) (by kernel_rfl) ?_
  exact post_ret (v := .int .i64 (wi64 (y4 + y9))) (fun a ha => RunRes.run (vs := [.int .i64 (wi64 (y4 + y9))]) (.tmp (t := 2) (by kernel_rfl) .nil) ha (by kernel_rfl)) ⟨rfl, hI⟩
set_option maxRecDepth 100000 in
set_option maxHeartbeats 4000000 in
/-- internal/strconv.formatBase10 -/
theorem c51 (w0 w : World) (Z : Hp) (A : HP)  (hT : Tabs Z) {WT : TypeId} {wp : Value} {wq : List Value} (A_a0 : Option Addr) (c_a0 : Nat) (a0 : (List Int)) (a1 : Int) (hI : Inv w0 Z w (star (winS WT wp wq A_a0 c_a0 a0) A)) (r : (List Int)) (h0 : strconv_formatBase10 a0 a1 = some r) :
    Calls prog 51 #[.slice A_a0 a0.length c_a0, .int .u64 a1] w (fun e w' => e = .returned (.tuple #[]) ∧ r.length = a0.length ∧ Inv w0 Z w' (star (winS WT wp wq A_a0 c_a0 r) A)) := by
  have e4 := calls_intro (R := (fun e w' => e = .returned (.tuple #[]) ∧ r.length = a0.length ∧ Inv w0 Z w' (star (winS WT wp wq A_a0 c_a0 r) A))) (w := w) (args := [.slice A_a0 a0.length c_a0, .int .u64 a1]) (fn := Go.Proofs.Try.f51) 167 Go.Proofs.Try.func51 (by rfl) Go.Proofs.Try.ntmps51 (by kernel_rfl)
  refine e4 ?_
  clear e4
  unfold strconv_formatBase10 at h0
  refine CodT.seq ?_
  refine CodT.regionL [0, 1, 2] (by kernel_rfl) ?_
  refine OpsT.pures (r := []) [0, 1, 2] [0, 1, 4] (S' := [(0, .slice A_a0 a0.length c_a0), (1, .int .u64 a1), (4, .int .i64 (a0.length : Int))]) (by kernel_rfl) ?_
  refine OpsT.done ?_
  refine Qn.then ?_
  refine CodT.seq ?_
  obtain ⟨r1, h1, h0⟩ := bindS h0
  refine CodT.meet1 (fun a w => ∃ (x1 : (List Int)) (x5 : Int) (x6 : Int), (x1, x5, x6) = r1 ∧ Fr 167 [(0, .slice A_a0 x1.length c_a0), (1, .int .u64 x5), (4, .int .i64 x6)] a ∧ Inv w0 Z w (star (winS WT wp wq A_a0 c_a0 x1) A)) ?_ ?_
  ·
    refine CodT.block ?_
    refine (fun a ha => wp_loopN (fun k a w => ∃ (x7 : (List Int)) (x11 : Int) (x12 : Int), strconv_formatBase10.l0 k x7 x11 x12 = some r1 ∧ Fr 167 [(0, .slice A_a0 x7.length c_a0), (1, .int .u64 x11), (4, .int .i64 x12)] a ∧ Inv w0 Z w (star (winS WT wp wq A_a0 c_a0 x7) A)) ?_ FU a w ⟨a0, a1, (a0.length : Int), h1, ha.keep [0, 1, 4] (by kernel_rfl), hI⟩)
    clear h1 hI
    rintro k a w ⟨x7, x11, x12, h1, ha, hI⟩
    rcases k with _ | k
    · cases h1
    simp only [strconv_formatBase10.l0] at h1
    refine CodT.of ?_ ha
    refine CodT.seq ?_
    refine CodT.seq ?_
    refine CodT.regionL [0, 1] (by kernel_rfl) ?_
    refine OpsT.pures (r := []) [0, 1] [0, 1, 4, 20] (S' := [(0, .slice A_a0 x7.length c_a0), (1, .int .u64 x11), (4, .int .i64 x12), (20, .bool (decide (x12 ≥ 8)))]) (by kernel_rfl) ?_
    refine OpsT.done ?_
    refine Qn.then ?_
    by_cases hb13 : (decide (x12 ≥ 8)) = true
    · rw [if_pos hb13] at h1
      refine CodT.yes' (b := decide (x12 ≥ 8)) (by kernel_rfl) hb13 ?_
      refine CodT.skip ?_
      refine Qn.then ?_
      refine CodT.block ?_
      refine CodT.seq ?_
      refine CodT.regionL [0, 1, 2, 3] (by kernel_rfl) ?_
      refine OpsT.pures (r := []) [0, 1, 2, 3] [0, 1, 4, 5] (S' := [(0, .slice A_a0 x7.length c_a0), (1, .int .u64 x11), (4, .int .i64 x12), (5, .int .u32 (wu32 (x11.tmod 100000000)))]) (by kernel_rfl) ?_
      refine OpsT.done ?_
      refine Qn.then ?_
      refine CodT.seq ?_
      refine CodT.regionL [0, 1, 2] (by kernel_rfl) ?_
      refine OpsT.pures (r := []) [0, 1, 2] [0, 1, 4, 5] (S' := [(0, .slice A_a0 x7.length c_a0), (1, .int .u64 (wu64 (x11.tdiv 100000000))), (4, .int .i64 x12), (5, .int .u32 (wu32 (x11.tmod 100000000)))]) (by kernel_rfl) ?_
      refine OpsT.done ?_
      refine Qn.then ?_
      refine CodT.seq ?_
      refine CodT.regionL [0, 1, 2, 3, 4, 5] (by kernel_rfl) ?_
      refine OpsT.pures (r := []) [0, 1, 2, 3, 4, 5] [0, 1, 4, 6, 7] (S' := [(0, .slice A_a0 x7.length c_a0), (1, .int .u64 (wu64 (x11.tdiv 100000000))), (4, .int .i64 x12), (6, .int .u32 (wu32 ((wu32 (x11.tmod 100000000)).tdiv 10000))), (7, .int .u32 ((wu32 (x11.tmod 100000000)).tmod 10000))]) (by kernel_rfl) ?_
      refine OpsT.done ?_
      refine Qn.then ?_
      refine CodT.seq ?_
      refine CodT.regionL [0, 1, 2, 3, 4, 5, 6, 7] (by kernel_rfl) ?_
      refine OpsT.pures (r := []) [0, 1, 2, 3, 4, 5, 6, 7] [0, 1, 4, 6, 8, 9] (S' := [(0, .slice A_a0 x7.length c_a0), (1, .int .u64 (wu64 (x11.tdiv 100000000))), (4, .int .i64 x12), (6, .int .u32 (wu32 ((wu32 (x11.tmod 100000000)).tdiv 10000))), (8, .int .u32 (wu32 ((wu32 (((wu32 (x11.tmod 100000000)).tmod 10000).tdiv 100)) * 2))), (9, .int .u32 (wu32 ((((wu32 (x11.tmod 100000000)).tmod 10000).tmod 100) * 2)))]) (by kernel_rfl) ?_
      refine OpsT.done ?_
      refine Qn.then ?_
      refine CodT.seq ?_
      refine CodT.regionL [0, 1, 2, 3, 4, 5, 6, 7] (by kernel_rfl) ?_
      refine OpsT.pures (r := []) [0, 1, 2, 3, 4, 5, 6, 7] [0, 1, 4, 8, 9, 10, 11] (S' := [(0, .slice A_a0 x7.length c_a0), (1, .int .u64 (wu64 (x11.tdiv 100000000))), (4, .int .i64 x12), (8, .int .u32 (wu32 ((wu32 (((wu32 (x11.tmod 100000000)).tmod 10000).tdiv 100)) * 2))), (9, .int .u32 (wu32 ((((wu32 (x11.tmod 100000000)).tmod 10000).tmod 100) * 2))), (10, .int .u32 (wu32 ((wu32 ((wu32 ((wu32 (x11.tmod 100000000)).tdiv 10000)).tdiv 100)) * 2))), (11, .int .u32 (wu32 (((wu32 ((wu32 (x11.tmod 100000000)).tdiv 10000)).tmod 100) * 2)))]) (by kernel_rfl) ?_
      refine OpsT.done ?_
      refine Qn.then ?_
      obtain ⟨r2, h2, h1⟩ := bindS h1
      refine CodT.meet (fun a w => ∃ (x14 : (List Int)), x14 = r2 ∧ Fr 167 [(0, .slice A_a0 x14.length c_a0), (1, .int .u64 (wu64 (x11.tdiv 100000000))), (4, .int .i64 x12), (8, .int .u32 (wu32 ((wu32 (((wu32 (x11.tmod 100000000)).tmod 10000).tdiv 100)) * 2))), (10, .int .u32 (wu32 ((wu32 ((wu32 ((wu32 (x11.tmod 100000000)).tdiv 10000)).tdiv 100)) * 2))), (11, .int .u32 (wu32 (((wu32 ((wu32 (x11.tmod 100000000)).tdiv 10000)).tmod 100) * 2)))] a ∧ Inv w0 Z w (star (winS WT wp wq A_a0 c_a0 x14) A)) ?_ ?_
      ·
        refine CodT.drawI (n := 15) [12, 14] (by kernel_rfl) (by kernel_rfl) hI ?_
        intro w hI
        refine GmT.p' 0 42 (.slice A_a0 x7.length c_a0) (by kernel_rfl) (by kernel_rfl) ?_
        refine GmT.p' 1 43 (.int .i64 x12) (by kernel_rfl) (by kernel_rfl) ?_
        refine GmT.p' 2 44 (.int .i64 (wi64 (x12 - 1))) (by kernel_rfl) (by kernel_rfl) ?_
        refine GmT.p' 3 45 (.slice A_a0 x7.length c_a0) (by kernel_rfl) (by kernel_rfl) ?_
        refine GmT.p' 4 46 (.int .i64 x12) (by kernel_rfl) (by kernel_rfl) ?_
        refine GmT.p' 5 47 (.int .i64 (wi64 (x12 - 2))) (by kernel_rfl) (by kernel_rfl) ?_
        refine GmT.p' 6 48 (.int .u32 (wu32 ((((wu32 (x11.tmod 100000000)).tmod 10000).tmod 100) * 2))) (by kernel_rfl) (by kernel_rfl) ?_
        refine GmT.p' 7 49 (.int .u32 (wu32 ((wu32 ((((wu32 (x11.tmod 100000000)).tmod 10000).tmod 100) * 2)) + 1))) (by kernel_rfl) (by kernel_rfl) ?_
        refine GmT.p' 9 51 (.int .u32 (wu32 ((((wu32 (x11.tmod 100000000)).tmod 10000).tmod 100) * 2))) (by kernel_rfl) (by kernel_rfl) ?_
        obtain ⟨hg18, h2⟩ := guardS h2
        refine GmT.r (i := 8) 2 (by kernel_rfl) (by kernel_rfl) (Yl.indexStr (d := 50) (T := 9) (k := .u32) (j := wu32 ((wu32 ((((wu32 (x11.tmod 100000000)).tmod 10000).tmod 100) * 2)) + 1)) (s := longT0) (by kernel_rfl) Go.Proofs.Try.underlying9 hg18.1 hg18.2) hI ?_
        obtain ⟨hg19, h2⟩ := guardS h2
        obtain ⟨g20, hA21, hr22, hl23⟩ := winS_get hI hg19.1 hg19.2
        refine GmT.r (i := 11) 2 (by kernel_rfl) (by kernel_rfl) (Yl.indexSlice (d := 53) (T := 37) (cc := c_a0) (k := .i64) (j := wi64 (x12 - 1)) (g := g20) (o := 1) (by kernel_rfl) Go.Proofs.Try.underlying37 ty5 hA21 hg19.1 hg19.2) hI ?_
        refine GmT.several [10, 12] (by kernel_rfl) rfl ?_
        intro i hi; simp only [List.mem_cons, List.not_mem_nil, or_false] at hi; rcases hi with rfl | rfl
        ·
          obtain ⟨hg24, h2⟩ := guardS h2
          rw [lst_set]
          refine (Does.yi (Yl.indexStr (d := 52) (T := 9) (k := .u32) (j := wu32 ((((wu32 (x11.tmod 100000000)).tmod 10000).tmod 100) * 2)) (s := longT0) (by kernel_rfl) Go.Proofs.Try.underlying9 hg24.1 hg24.2) hI ?_)
          refine ⟨fun _ h => h, ?_⟩
          refine GmT.o (i := 12) (by kernel_rfl) (Does.storeWin (T := 5) (j := wi64 (x12 - 1)) (k := 0) (v := .int .u8 (bt longT0 (wu32 ((wu32 ((((wu32 (x11.tmod 100000000)).tmod 10000).tmod 100) * 2)) + 1)))) (vs := ([.int .u8 (bt longT0 (wu32 ((wu32 ((((wu32 (x11.tmod 100000000)).tmod 10000).tmod 100) * 2)) + 1)))] : List Value)) (bt longT0 (wu32 ((wu32 ((((wu32 (x11.tmod 100000000)).tmod 10000).tmod 100) * 2)) + 1))) (by kernel_rfl) ty5 hA21 hI hg19.1 hg19.2 (by kernel_rfl) (by kernel_rfl) (by kernel_rfl) (by kernel_rfl) (by kernel_rfl) ?_)
          intro w hI
          refine ⟨fun h => absurd h (by decide), ?_⟩
          refine GmT.keep [0, 1, 4, 8, 9, 10, 11, 42, 43, 44, 45, 46, 47, 48, 49, 50, 51, 52] (S' := [(0, .slice A_a0 ((st x7 (wi64 (x12 - 1)) (bt longT0 (wu32 ((wu32 ((((wu32 (x11.tmod 100000000)).tmod 10000).tmod 100) * 2)) + 1)))).length) c_a0), (1, .int .u64 (wu64 (x11.tdiv 100000000))), (4, .int .i64 x12), (8, .int .u32 (wu32 ((wu32 (((wu32 (x11.tmod 100000000)).tmod 10000).tdiv 100)) * 2))), (9, .int .u32 (wu32 ((((wu32 (x11.tmod 100000000)).tmod 10000).tmod 100) * 2))), (10, .int .u32 (wu32 ((wu32 ((wu32 ((wu32 (x11.tmod 100000000)).tdiv 10000)).tdiv 100)) * 2))), (11, .int .u32 (wu32 (((wu32 ((wu32 (x11.tmod 100000000)).tdiv 10000)).tmod 100) * 2))), (42, .slice A_a0 ((st x7 (wi64 (x12 - 1)) (bt longT0 (wu32 ((wu32 ((((wu32 (x11.tmod 100000000)).tmod 10000).tmod 100) * 2)) + 1)))).length) c_a0), (43, .int .i64 x12), (44, .int .i64 (wi64 (x12 - 1))), (45, .slice A_a0 ((st x7 (wi64 (x12 - 1)) (bt longT0 (wu32 ((wu32 ((((wu32 (x11.tmod 100000000)).tmod 10000).tmod 100) * 2)) + 1)))).length) c_a0), (46, .int .i64 x12), (47, .int .i64 (wi64 (x12 - 2))), (48, .int .u32 (wu32 ((((wu32 (x11.tmod 100000000)).tmod 10000).tmod 100) * 2))), (49, .int .u32 (wu32 ((wu32 ((((wu32 (x11.tmod 100000000)).tmod 10000).tmod 100) * 2)) + 1))), (50, .int .u8 (bt longT0 (wu32 ((wu32 ((((wu32 (x11.tmod 100000000)).tmod 10000).tmod 100) * 2)) + 1)))), (51, .int .u32 (wu32 ((((wu32 (x11.tmod 100000000)).tmod 10000).tmod 100) * 2))), (52, .int .u8 (bt longT0 (wu32 ((((wu32 (x11.tmod 100000000)).tmod 10000).tmod 100) * 2))))]) (by simp only [st_length]; kernel_rfl) ?_
          obtain ⟨hg25, h2⟩ := guardS h2
          obtain ⟨g26, hA27, hr28, hl29⟩ := winS_get hI hg25.1 hg25.2
          refine GmT.o (i := 13) (by kernel_rfl) (Does.yi (Yl.indexSlice (d := 54) (T := 37) (cc := c_a0) (k := .i64) (j := wi64 (x12 - 2)) (g := g26) (o := 1) (by kernel_rfl) Go.Proofs.Try.underlying37 ty5 hA27 hg25.1 hg25.2) hI ?_)
          refine ⟨fun _ h => h, ?_⟩
          refine GmT.o (i := 14) (by kernel_rfl) (Does.storeWin (T := 5) (j := wi64 (x12 - 2)) (k := 0) (v := .int .u8 (bt longT0 (wu32 ((((wu32 (x11.tmod 100000000)).tmod 10000).tmod 100) * 2)))) (vs := ([.int .u8 (bt longT0 (wu32 ((((wu32 (x11.tmod 100000000)).tmod 10000).tmod 100) * 2)))] : List Value)) (bt longT0 (wu32 ((((wu32 (x11.tmod 100000000)).tmod 10000).tmod 100) * 2))) (by kernel_rfl) ty5 hA27 hI hg25.1 hg25.2 (by kernel_rfl) (by kernel_rfl) (by kernel_rfl) (by kernel_rfl) (by kernel_rfl) ?_)
          intro w hI
          refine ⟨fun h => absurd h (by decide), ?_⟩
          refine GmT.keep [0, 1, 4, 8, 9, 10, 11, 42, 43, 44, 45, 46, 47, 48, 49, 50, 51, 52] (S' := [(0, .slice A_a0 ((st (st x7 (wi64 (x12 - 1)) (bt longT0 (wu32 ((wu32 ((((wu32 (x11.tmod 100000000)).tmod 10000).tmod 100) * 2)) + 1)))) (wi64 (x12 - 2)) (bt longT0 (wu32 ((((wu32 (x11.tmod 100000000)).tmod 10000).tmod 100) * 2)))).length) c_a0), (1, .int .u64 (wu64 (x11.tdiv 100000000))), (4, .int .i64 x12), (8, .int .u32 (wu32 ((wu32 (((wu32 (x11.tmod 100000000)).tmod 10000).tdiv 100)) * 2))), (9, .int .u32 (wu32 ((((wu32 (x11.tmod 100000000)).tmod 10000).tmod 100) * 2))), (10, .int .u32 (wu32 ((wu32 ((wu32 ((wu32 (x11.tmod 100000000)).tdiv 10000)).tdiv 100)) * 2))), (11, .int .u32 (wu32 (((wu32 ((wu32 (x11.tmod 100000000)).tdiv 10000)).tmod 100) * 2))), (42, .slice A_a0 ((st (st x7 (wi64 (x12 - 1)) (bt longT0 (wu32 ((wu32 ((((wu32 (x11.tmod 100000000)).tmod 10000).tmod 100) * 2)) + 1)))) (wi64 (x12 - 2)) (bt longT0 (wu32 ((((wu32 (x11.tmod 100000000)).tmod 10000).tmod 100) * 2)))).length) c_a0), (43, .int .i64 x12), (44, .int .i64 (wi64 (x12 - 1))), (45, .slice A_a0 ((st (st x7 (wi64 (x12 - 1)) (bt longT0 (wu32 ((wu32 ((((wu32 (x11.tmod 100000000)).tmod 10000).tmod 100) * 2)) + 1)))) (wi64 (x12 - 2)) (bt longT0 (wu32 ((((wu32 (x11.tmod 100000000)).tmod 10000).tmod 100) * 2)))).length) c_a0), (46, .int .i64 x12), (47, .int .i64 (wi64 (x12 - 2))), (48, .int .u32 (wu32 ((((wu32 (x11.tmod 100000000)).tmod 10000).tmod 100) * 2))), (49, .int .u32 (wu32 ((wu32 ((((wu32 (x11.tmod 100000000)).tmod 10000).tmod 100) * 2)) + 1))), (50, .int .u8 (bt longT0 (wu32 ((wu32 ((((wu32 (x11.tmod 100000000)).tmod 10000).tmod 100) * 2)) + 1)))), (51, .int .u32 (wu32 ((((wu32 (x11.tmod 100000000)).tmod 10000).tmod 100) * 2))), (52, .int .u8 (bt longT0 (wu32 ((((wu32 (x11.tmod 100000000)).tmod 10000).tmod 100) * 2))))]) (by simp only [st_length]; kernel_rfl) ?_
          refine GmT.done (by kernel_rfl) ?_
          have e := someS h2
          subst e
          exact Qn.thenJ fun a ha => ⟨st (st x7 (wi64 (x12 - 1)) (bt longT0 (wu32 ((wu32 ((((wu32 (x11.tmod 100000000)).tmod 10000).tmod 100) * 2)) + 1)))) (wi64 (x12 - 2)) (bt longT0 (wu32 ((((wu32 (x11.tmod 100000000)).tmod 10000).tmod 100) * 2))), rfl, ha.keep [0, 1, 4, 8, 10, 11] (by kernel_rfl), hI⟩
        ·
          rw [lst_set]
          refine (Does.storeWin (T := 5) (j := wi64 (x12 - 1)) (k := 0) (v := .int .u8 (bt longT0 (wu32 ((wu32 ((((wu32 (x11.tmod 100000000)).tmod 10000).tmod 100) * 2)) + 1)))) (vs := ([.int .u8 (bt longT0 (wu32 ((wu32 ((((wu32 (x11.tmod 100000000)).tmod 10000).tmod 100) * 2)) + 1)))] : List Value)) (bt longT0 (wu32 ((wu32 ((((wu32 (x11.tmod 100000000)).tmod 10000).tmod 100) * 2)) + 1))) (by kernel_rfl) ty5 hA21 hI hg19.1 hg19.2 (by kernel_rfl) (by kernel_rfl) (by kernel_rfl) (by kernel_rfl) (by kernel_rfl) ?_)
          intro w hI
          refine ⟨fun h => absurd h (by decide), ?_⟩
          refine GmT.keep [0, 1, 4, 8, 9, 10, 11, 42, 43, 44, 45, 46, 47, 48, 49, 50, 51] (S' := [(0, .slice A_a0 ((st x7 (wi64 (x12 - 1)) (bt longT0 (wu32 ((wu32 ((((wu32 (x11.tmod 100000000)).tmod 10000).tmod 100) * 2)) + 1)))).length) c_a0), (1, .int .u64 (wu64 (x11.tdiv 100000000))), (4, .int .i64 x12), (8, .int .u32 (wu32 ((wu32 (((wu32 (x11.tmod 100000000)).tmod 10000).tdiv 100)) * 2))), (9, .int .u32 (wu32 ((((wu32 (x11.tmod 100000000)).tmod 10000).tmod 100) * 2))), (10, .int .u32 (wu32 ((wu32 ((wu32 ((wu32 (x11.tmod 100000000)).tdiv 10000)).tdiv 100)) * 2))), (11, .int .u32 (wu32 (((wu32 ((wu32 (x11.tmod 100000000)).tdiv 10000)).tmod 100) * 2))), (42, .slice A_a0 ((st x7 (wi64 (x12 - 1)) (bt longT0 (wu32 ((wu32 ((((wu32 (x11.tmod 100000000)).tmod 10000).tmod 100) * 2)) + 1)))).length) c_a0), (43, .int .i64 x12), (44, .int .i64 (wi64 (x12 - 1))), (45, .slice A_a0 ((st x7 (wi64 (x12 - 1)) (bt longT0 (wu32 ((wu32 ((((wu32 (x11.tmod 100000000)).tmod 10000).tmod 100) * 2)) + 1)))).length) c_a0), (46, .int .i64 x12), (47, .int .i64 (wi64 (x12 - 2))), (48, .int .u32 (wu32 ((((wu32 (x11.tmod 100000000)).tmod 10000).tmod 100) * 2))), (49, .int .u32 (wu32 ((wu32 ((((wu32 (x11.tmod 100000000)).tmod 10000).tmod 100) * 2)) + 1))), (50, .int .u8 (bt longT0 (wu32 ((wu32 ((((wu32 (x11.tmod 100000000)).tmod 10000).tmod 100) * 2)) + 1)))), (51, .int .u32 (wu32 ((((wu32 (x11.tmod 100000000)).tmod 10000).tmod 100) * 2)))]) (by simp only [st_length]; kernel_rfl) ?_
          obtain ⟨hg30, h2⟩ := guardS h2
          refine GmT.o (i := 10) (by kernel_rfl) (Does.yi (Yl.indexStr (d := 52) (T := 9) (k := .u32) (j := wu32 ((((wu32 (x11.tmod 100000000)).tmod 10000).tmod 100) * 2)) (s := longT0) (by kernel_rfl) Go.Proofs.Try.underlying9 hg30.1 hg30.2) hI ?_)
          refine ⟨fun _ h => h, ?_⟩
          obtain ⟨hg31, h2⟩ := guardS h2
          obtain ⟨g32, hA33, hr34, hl35⟩ := winS_get hI hg31.1 hg31.2
          refine GmT.o (i := 13) (by kernel_rfl) (Does.yi (Yl.indexSlice (d := 54) (T := 37) (cc := c_a0) (k := .i64) (j := wi64 (x12 - 2)) (g := g32) (o := 1) (by kernel_rfl) Go.Proofs.Try.underlying37 ty5 hA33 hg31.1 hg31.2) hI ?_)
          refine ⟨fun _ h => h, ?_⟩
          refine GmT.o (i := 14) (by kernel_rfl) (Does.storeWin (T := 5) (j := wi64 (x12 - 2)) (k := 0) (v := .int .u8 (bt longT0 (wu32 ((((wu32 (x11.tmod 100000000)).tmod 10000).tmod 100) * 2)))) (vs := ([.int .u8 (bt longT0 (wu32 ((((wu32 (x11.tmod 100000000)).tmod 10000).tmod 100) * 2)))] : List Value)) (bt longT0 (wu32 ((((wu32 (x11.tmod 100000000)).tmod 10000).tmod 100) * 2))) (by kernel_rfl) ty5 hA33 hI hg31.1 hg31.2 (by kernel_rfl) (by kernel_rfl) (by kernel_rfl) (by kernel_rfl) (by kernel_rfl) ?_)
          intro w hI
          refine ⟨fun h => absurd h (by decide), ?_⟩
          refine GmT.keep [0, 1, 4, 8, 9, 10, 11, 42, 43, 44, 45, 46, 47, 48, 49, 50, 51, 52] (S' := [(0, .slice A_a0 ((st (st x7 (wi64 (x12 - 1)) (bt longT0 (wu32 ((wu32 ((((wu32 (x11.tmod 100000000)).tmod 10000).tmod 100) * 2)) + 1)))) (wi64 (x12 - 2)) (bt longT0 (wu32 ((((wu32 (x11.tmod 100000000)).tmod 10000).tmod 100) * 2)))).length) c_a0), (1, .int .u64 (wu64 (x11.tdiv 100000000))), (4, .int .i64 x12), (8, .int .u32 (wu32 ((wu32 (((wu32 (x11.tmod 100000000)).tmod 10000).tdiv 100)) * 2))), (9, .int .u32 (wu32 ((((wu32 (x11.tmod 100000000)).tmod 10000).tmod 100) * 2))), (10, .int .u32 (wu32 ((wu32 ((wu32 ((wu32 (x11.tmod 100000000)).tdiv 10000)).tdiv 100)) * 2))), (11, .int .u32 (wu32 (((wu32 ((wu32 (x11.tmod 100000000)).tdiv 10000)).tmod 100) * 2))), (42, .slice A_a0 ((st (st x7 (wi64 (x12 - 1)) (bt longT0 (wu32 ((wu32 ((((wu32 (x11.tmod 100000000)).tmod 10000).tmod 100) * 2)) + 1)))) (wi64 (x12 - 2)) (bt longT0 (wu32 ((((wu32 (x11.tmod 100000000)).tmod 10000).tmod 100) * 2)))).length) c_a0), (43, .int .i64 x12), (44, .int .i64 (wi64 (x12 - 1))), (45, .slice A_a0 ((st (st x7 (wi64 (x12 - 1)) (bt longT0 (wu32 ((wu32 ((((wu32 (x11.tmod 100000000)).tmod 10000).tmod 100) * 2)) + 1)))) (wi64 (x12 - 2)) (bt longT0 (wu32 ((((wu32 (x11.tmod 100000000)).tmod 10000).tmod 100) * 2)))).length) c_a0), (46, .int .i64 x12), (47, .int .i64 (wi64 (x12 - 2))), (48, .int .u32 (wu32 ((((wu32 (x11.tmod 100000000)).tmod 10000).tmod 100) * 2))), (49, .int .u32 (wu32 ((wu32 ((((wu32 (x11.tmod 100000000)).tmod 10000).tmod 100) * 2)) + 1))), (50, .int .u8 (bt longT0 (wu32 ((wu32 ((((wu32 (x11.tmod 100000000)).tmod 10000).tmod 100) * 2)) + 1)))), (51, .int .u32 (wu32 ((((wu32 (x11.tmod 100000000)).tmod 10000).tmod 100) * 2))), (52, .int .u8 (bt longT0 (wu32 ((((wu32 (x11.tmod 100000000)).tmod 10000).tmod 100) * 2))))]) (by simp only [st_length]; kernel_rfl) ?_
          refine GmT.done (by kernel_rfl) ?_
          have e := someS h2
          subst e
          exact Qn.thenJ fun a ha => ⟨st (st x7 (wi64 (x12 - 1)) (bt longT0 (wu32 ((wu32 ((((wu32 (x11.tmod 100000000)).tmod 10000).tmod 100) * 2)) + 1)))) (wi64 (x12 - 2)) (bt longT0 (wu32 ((((wu32 (x11.tmod 100000000)).tmod 10000).tmod 100) * 2))), rfl, ha.keep [0, 1, 4, 8, 10, 11] (by kernel_rfl), hI⟩
      ·
        rintro a w ⟨x14, rfl, ha, hI⟩
        try dsimp only at h1
        refine CodT.of ?_ ha
        obtain ⟨r2, h2, h1⟩ := bindS h1
        refine CodT.meet (fun a w => ∃ (x36 : (List Int)), x36 = r2 ∧ Fr 167 [(0, .slice A_a0 x36.length c_a0), (1, .int .u64 (wu64 (x11.tdiv 100000000))), (4, .int .i64 x12), (10, .int .u32 (wu32 ((wu32 ((wu32 ((wu32 (x11.tmod 100000000)).tdiv 10000)).tdiv 100)) * 2))), (11, .int .u32 (wu32 (((wu32 ((wu32 (x11.tmod 100000000)).tdiv 10000)).tmod 100) * 2)))] a ∧ Inv w0 Z w (star (winS WT wp wq A_a0 c_a0 x36) A)) ?_ ?_
        ·
          refine CodT.drawI (n := 15) [12, 14] (by kernel_rfl) (by kernel_rfl) hI ?_
          intro w hI
          refine GmT.p' 0 55 (.slice A_a0 x14.length c_a0) (by kernel_rfl) (by kernel_rfl) ?_
          refine GmT.p' 1 56 (.int .i64 x12) (by kernel_rfl) (by kernel_rfl) ?_
          refine GmT.p' 2 57 (.int .i64 (wi64 (x12 - 3))) (by kernel_rfl) (by kernel_rfl) ?_
          refine GmT.p' 3 58 (.slice A_a0 x14.length c_a0) (by kernel_rfl) (by kernel_rfl) ?_
          refine GmT.p' 4 59 (.int .i64 x12) (by kernel_rfl) (by kernel_rfl) ?_
          refine GmT.p' 5 60 (.int .i64 (wi64 (x12 - 4))) (by kernel_rfl) (by kernel_rfl) ?_
          refine GmT.p' 6 61 (.int .u32 (wu32 ((wu32 (((wu32 (x11.tmod 100000000)).tmod 10000).tdiv 100)) * 2))) (by kernel_rfl) (by kernel_rfl) ?_
          refine GmT.p' 7 62 (.int .u32 (wu32 ((wu32 ((wu32 (((wu32 (x11.tmod 100000000)).tmod 10000).tdiv 100)) * 2)) + 1))) (by kernel_rfl) (by kernel_rfl) ?_
          refine GmT.p' 9 64 (.int .u32 (wu32 ((wu32 (((wu32 (x11.tmod 100000000)).tmod 10000).tdiv 100)) * 2))) (by kernel_rfl) (by kernel_rfl) ?_
          obtain ⟨hg40, h2⟩ := guardS h2
          refine GmT.r (i := 8) 2 (by kernel_rfl) (by kernel_rfl) (Yl.indexStr (d := 63) (T := 9) (k := .u32) (j := wu32 ((wu32 ((wu32 (((wu32 (x11.tmod 100000000)).tmod 10000).tdiv 100)) * 2)) + 1)) (s := longT0) (by kernel_rfl) Go.Proofs.Try.underlying9 hg40.1 hg40.2) hI ?_
          obtain ⟨hg41, h2⟩ := guardS h2
          obtain ⟨g42, hA43, hr44, hl45⟩ := winS_get hI hg41.1 hg41.2
          refine GmT.r (i := 11) 2 (by kernel_rfl) (by kernel_rfl) (Yl.indexSlice (d := 66) (T := 37) (cc := c_a0) (k := .i64) (j := wi64 (x12 - 3)) (g := g42) (o := 1) (by kernel_rfl) Go.Proofs.Try.underlying37 ty5 hA43 hg41.1 hg41.2) hI ?_
          refine GmT.several [10, 12] (by kernel_rfl) rfl ?_
          intro i hi; simp only [List.mem_cons, List.not_mem_nil, or_false] at hi; rcases hi with rfl | rfl
          ·
            obtain ⟨hg46, h2⟩ := guardS h2
            rw [lst_set]
            refine (Does.yi (Yl.indexStr (d := 65) (T := 9) (k := .u32) (j := wu32 ((wu32 (((wu32 (x11.tmod 100000000)).tmod 10000).tdiv 100)) * 2)) (s := longT0) (by kernel_rfl) Go.Proofs.Try.underlying9 hg46.1 hg46.2) hI ?_)
            refine ⟨fun _ h => h, ?_⟩
            refine GmT.o (i := 12) (by kernel_rfl) (Does.storeWin (T := 5) (j := wi64 (x12 - 3)) (k := 0) (v := .int .u8 (bt longT0 (wu32 ((wu32 ((wu32 (((wu32 (x11.tmod 100000000)).tmod 10000).tdiv 100)) * 2)) + 1)))) (vs := ([.int .u8 (bt longT0 (wu32 ((wu32 ((wu32 (((wu32 (x11.tmod 100000000)).tmod 10000).tdiv 100)) * 2)) + 1)))] : List Value)) (bt longT0 (wu32 ((wu32 ((wu32 (((wu32 (x11.tmod 100000000)).tmod 10000).tdiv 100)) * 2)) + 1))) (by kernel_rfl) ty5 hA43 hI hg41.1 hg41.2 (by kernel_rfl) (by kernel_rfl) (by kernel_rfl) (by kernel_rfl) (by kernel_rfl) ?_)
            intro w hI
            refine ⟨fun h => absurd h (by decide), ?_⟩
            refine GmT.keep [0, 1, 4, 8, 10, 11, 55, 56, 57, 58, 59, 60, 61, 62, 63, 64, 65] (S' := [(0, .slice A_a0 ((st x14 (wi64 (x12 - 3)) (bt longT0 (wu32 ((wu32 ((wu32 (((wu32 (x11.tmod 100000000)).tmod 10000).tdiv 100)) * 2)) + 1)))).length) c_a0), (1, .int .u64 (wu64 (x11.tdiv 100000000))), (4, .int .i64 x12), (8, .int .u32 (wu32 ((wu32 (((wu32 (x11.tmod 100000000)).tmod 10000).tdiv 100)) * 2))), (10, .int .u32 (wu32 ((wu32 ((wu32 ((wu32 (x11.tmod 100000000)).tdiv 10000)).tdiv 100)) * 2))), (11, .int .u32 (wu32 (((wu32 ((wu32 (x11.tmod 100000000)).tdiv 10000)).tmod 100) * 2))), (55, .slice A_a0 ((st x14 (wi64 (x12 - 3)) (bt longT0 (wu32 ((wu32 ((wu32 (((wu32 (x11.tmod 100000000)).tmod 10000).tdiv 100)) * 2)) + 1)))).length) c_a0), (56, .int .i64 x12), (57, .int .i64 (wi64 (x12 - 3))), (58, .slice A_a0 ((st x14 (wi64 (x12 - 3)) (bt longT0 (wu32 ((wu32 ((wu32 (((wu32 (x11.tmod 100000000)).tmod 10000).tdiv 100)) * 2)) + 1)))).length) c_a0), (59, .int .i64 x12), (60, .int .i64 (wi64 (x12 - 4))), (61, .int .u32 (wu32 ((wu32 (((wu32 (x11.tmod 100000000)).tmod 10000).tdiv 100)) * 2))), (62, .int .u32 (wu32 ((wu32 ((wu32 (((wu32 (x11.tmod 100000000)).tmod 10000).tdiv 100)) * 2)) + 1))), (63, .int .u8 (bt longT0 (wu32 ((wu32 ((wu32 (((wu32 (x11.tmod 100000000)).tmod 10000).tdiv 100)) * 2)) + 1)))), (64, .int .u32 (wu32 ((wu32 (((wu32 (x11.tmod 100000000)).tmod 10000).tdiv 100)) * 2))), (65, .int .u8 (bt longT0 (wu32 ((wu32 (((wu32 (x11.tmod 100000000)).tmod 10000).tdiv 100)) * 2))))]) (by simp only [st_length]; kernel_rfl) ?_
            obtain ⟨hg47, h2⟩ := guardS h2
            obtain ⟨g48, hA49, hr50, hl51⟩ := winS_get hI hg47.1 hg47.2
            refine GmT.o (i := 13) (by kernel_rfl) (Does.yi (Yl.indexSlice (d := 67) (T := 37) (cc := c_a0) (k := .i64) (j := wi64 (x12 - 4)) (g := g48) (o := 1) (by kernel_rfl) Go.Proofs.Try.underlying37 ty5 hA49 hg47.1 hg47.2) hI ?_)
            refine ⟨fun _ h => h, ?_⟩
            refine GmT.o (i := 14) (by kernel_rfl) (Does.storeWin (T := 5) (j := wi64 (x12 - 4)) (k := 0) (v := .int .u8 (bt longT0 (wu32 ((wu32 (((wu32 (x11.tmod 100000000)).tmod 10000).tdiv 100)) * 2)))) (vs := ([.int .u8 (bt longT0 (wu32 ((wu32 (((wu32 (x11.tmod 100000000)).tmod 10000).tdiv 100)) * 2)))] : List Value)) (bt longT0 (wu32 ((wu32 (((wu32 (x11.tmod 100000000)).tmod 10000).tdiv 100)) * 2))) (by kernel_rfl) ty5 hA49 hI hg47.1 hg47.2 (by kernel_rfl) (by kernel_rfl) (by kernel_rfl) (by kernel_rfl) (by kernel_rfl) ?_)
            intro w hI
            refine ⟨fun h => absurd h (by decide), ?_⟩
            refine GmT.keep [0, 1, 4, 8, 10, 11, 55, 56, 57, 58, 59, 60, 61, 62, 63, 64, 65] (S' := [(0, .slice A_a0 ((st (st x14 (wi64 (x12 - 3)) (bt longT0 (wu32 ((wu32 ((wu32 (((wu32 (x11.tmod 100000000)).tmod 10000).tdiv 100)) * 2)) + 1)))) (wi64 (x12 - 4)) (bt longT0 (wu32 ((wu32 (((wu32 (x11.tmod 100000000)).tmod 10000).tdiv 100)) * 2)))).length) c_a0), (1, .int .u64 (wu64 (x11.tdiv 100000000))), (4, .int .i64 x12), (8, .int .u32 (wu32 ((wu32 (((wu32 (x11.tmod 100000000)).tmod 10000).tdiv 100)) * 2))), (10, .int .u32 (wu32 ((wu32 ((wu32 ((wu32 (x11.tmod 100000000)).tdiv 10000)).tdiv 100)) * 2))), (11, .int .u32 (wu32 (((wu32 ((wu32 (x11.tmod 100000000)).tdiv 10000)).tmod 100) * 2))), (55, .slice A_a0 ((st (st x14 (wi64 (x12 - 3)) (bt longT0 (wu32 ((wu32 ((wu32 (((wu32 (x11.tmod 100000000)).tmod 10000).tdiv 100)) * 2)) + 1)))) (wi64 (x12 - 4)) (bt longT0 (wu32 ((wu32 (((wu32 (x11.tmod 100000000)).tmod 10000).tdiv 100)) * 2)))).length) c_a0), (56, .int .i64 x12), (57, .int .i64 (wi64 (x12 - 3))), (58, .slice A_a0 ((st (st x14 (wi64 (x12 - 3)) (bt longT0 (wu32 ((wu32 ((wu32 (((wu32 (x11.tmod 100000000)).tmod 10000).tdiv 100)) * 2)) + 1)))) (wi64 (x12 - 4)) (bt longT0 (wu32 ((wu32 (((wu32 (x11.tmod 100000000)).tmod 10000).tdiv 100)) * 2)))).length) c_a0), (59, .int .i64 x12), (60, .int .i64 (wi64 (x12 - 4))), (61, .int .u32 (wu32 ((wu32 (((wu32 (x11.tmod 100000000)).tmod 10000).tdiv 100)) * 2))), (62, .int .u32 (wu32 ((wu32 ((wu32 (((wu32 (x11.tmod 100000000)).tmod 10000).tdiv 100)) * 2)) + 1))), (63, .int .u8 (bt longT0 (wu32 ((wu32 ((wu32 (((wu32 (x11.tmod 100000000)).tmod 10000).tdiv 100)) * 2)) + 1)))), (64, .int .u32 (wu32 ((wu32 (((wu32 (x11.tmod 100000000)).tmod 10000).tdiv 100)) * 2))), (65, .int .u8 (bt longT0 (wu32 ((wu32 (((wu32 (x11.tmod 100000000)).tmod 10000).tdiv 100)) * 2))))]) (by simp only [st_length]; kernel_rfl) ?_
            refine GmT.done (by kernel_rfl) ?_
            have e := someS h2
            subst e
            exact Qn.thenJ fun a ha => ⟨st (st x14 (wi64 (x12 - 3)) (bt longT0 (wu32 ((wu32 ((wu32 (((wu32 (x11.tmod 100000000)).tmod 10000).tdiv 100)) * 2)) + 1)))) (wi64 (x12 - 4)) (bt longT0 (wu32 ((wu32 (((wu32 (x11.tmod 100000000)).tmod 10000).tdiv 100)) * 2))), rfl, ha.keep [0, 1, 4, 10, 11] (by kernel_rfl), hI⟩
          ·
            rw [lst_set]
            refine (Does.storeWin (T := 5) (j := wi64 (x12 - 3)) (k := 0) (v := .int .u8 (bt longT0 (wu32 ((wu32 ((wu32 (((wu32 (x11.tmod 100000000)).tmod 10000).tdiv 100)) * 2)) + 1)))) (vs := ([.int .u8 (bt longT0 (wu32 ((wu32 ((wu32 (((wu32 (x11.tmod 100000000)).tmod 10000).tdiv 100)) * 2)) + 1)))] : List Value)) (bt longT0 (wu32 ((wu32 ((wu32 (((wu32 (x11.tmod 100000000)).tmod 10000).tdiv 100)) * 2)) + 1))) (by kernel_rfl) ty5 hA43 hI hg41.1 hg41.2 (by kernel_rfl) (by kernel_rfl) (by kernel_rfl) (by kernel_rfl) (by kernel_rfl) ?_)
            intro w hI
            refine ⟨fun h => absurd h (by decide), ?_⟩
            refine GmT.keep [0, 1, 4, 8, 10, 11, 55, 56, 57, 58, 59, 60, 61, 62, 63, 64] (S' := [(0, .slice A_a0 ((st x14 (wi64 (x12 - 3)) (bt longT0 (wu32 ((wu32 ((wu32 (((wu32 (x11.tmod 100000000)).tmod 10000).tdiv 100)) * 2)) + 1)))).length) c_a0), (1, .int .u64 (wu64 (x11.tdiv 100000000))), (4, .int .i64 x12), (8, .int .u32 (wu32 ((wu32 (((wu32 (x11.tmod 100000000)).tmod 10000).tdiv 100)) * 2))), (10, .int .u32 (wu32 ((wu32 ((wu32 ((wu32 (x11.tmod 100000000)).tdiv 10000)).tdiv 100)) * 2))), (11, .int .u32 (wu32 (((wu32 ((wu32 (x11.tmod 100000000)).tdiv 10000)).tmod 100) * 2))), (55, .slice A_a0 ((st x14 (wi64 (x12 - 3)) (bt longT0 (wu32 ((wu32 ((wu32 (((wu32 (x11.tmod 100000000)).tmod 10000).tdiv 100)) * 2)) + 1)))).length) c_a0), (56, .int .i64 x12), (57, .int .i64 (wi64 (x12 - 3))), (58, .slice A_a0 ((st x14 (wi64 (x12 - 3)) (bt longT0 (wu32 ((wu32 ((wu32 (((wu32 (x11.tmod 100000000)).tmod 10000).tdiv 100)) * 2)) + 1)))).length) c_a0), (59, .int .i64 x12), (60, .int .i64 (wi64 (x12 - 4))), (61, .int .u32 (wu32 ((wu32 (((wu32 (x11.tmod 100000000)).tmod 10000).tdiv 100)) * 2))), (62, .int .u32 (wu32 ((wu32 ((wu32 (((wu32 (x11.tmod 100000000)).tmod 10000).tdiv 100)) * 2)) + 1))), (63, .int .u8 (bt longT0 (wu32 ((wu32 ((wu32 (((wu32 (x11.tmod 100000000)).tmod 10000).tdiv 100)) * 2)) + 1)))), (64, .int .u32 (wu32 ((wu32 (((wu32 (x11.tmod 100000000)).tmod 10000).tdiv 100)) * 2)))]) (by simp only [st_length]; kernel_rfl) ?_
            obtain ⟨hg52, h2⟩ := guardS h2
            refine GmT.o (i := 10) (by kernel_rfl) (Does.yi (Yl.indexStr (d := 65) (T := 9) (k := .u32) (j := wu32 ((wu32 (((wu32 (x11.tmod 100000000)).tmod 10000).tdiv 100)) * 2)) (s := longT0) (by kernel_rfl) Go.Proofs.Try.underlying9 hg52.1 hg52.2) hI ?_)
            refine ⟨fun _ h => h, ?_⟩
            obtain ⟨hg53, h2⟩ := guardS h2
            obtain ⟨g54, hA55, hr56, hl57⟩ := winS_get hI hg53.1 hg53.2
            refine GmT.o (i := 13) (by kernel_rfl) (Does.yi (Yl.indexSlice (d := 67) (T := 37) (cc := c_a0) (k := .i64) (j := wi64 (x12 - 4)) (g := g54) (o := 1) (by kernel_rfl) Go.Proofs.Try.underlying37 ty5 hA55 hg53.1 hg53.2) hI ?_)
            refine ⟨fun _ h => h, ?_⟩
            refine GmT.o (i := 14) (by kernel_rfl) (Does.storeWin (T := 5) (j := wi64 (x12 - 4)) (k := 0) (v := .int .u8 (bt longT0 (wu32 ((wu32 (((wu32 (x11.tmod 100000000)).tmod 10000).tdiv 100)) * 2)))) (vs := ([.int .u8 (bt longT0 (wu32 ((wu32 (((wu32 (x11.tmod 100000000)).tmod 10000).tdiv 100)) * 2)))] : List Value)) (bt longT0 (wu32 ((wu32 (((wu32 (x11.tmod 100000000)).tmod 10000).tdiv 100)) * 2))) (by kernel_rfl) ty5 hA55 hI hg53.1 hg53.2 (by kernel_rfl) (by kernel_rfl) (by kernel_rfl) (by kernel_rfl) (by kernel_rfl) ?_)
            intro w hI
            refine ⟨fun h => absurd h (by decide), ?_⟩
            refine GmT.keep [0, 1, 4, 8, 10, 11, 55, 56, 57, 58, 59, 60, 61, 62, 63, 64, 65] (S' := [(0, .slice A_a0 ((st (st x14 (wi64 (x12 - 3)) (bt longT0 (wu32 ((wu32 ((wu32 (((wu32 (x11.tmod 100000000)).tmod 10000).tdiv 100)) * 2)) + 1)))) (wi64 (x12 - 4)) (bt longT0 (wu32 ((wu32 (((wu32 (x11.tmod 100000000)).tmod 10000).tdiv 100)) * 2)))).length) c_a0), (1, .int .u64 (wu64 (x11.tdiv 100000000))), (4, .int .i64 x12), (8, .int .u32 (wu32 ((wu32 (((wu32 (x11.tmod 100000000)).tmod 10000).tdiv 100)) * 2))), (10, .int .u32 (wu32 ((wu32 ((wu32 ((wu32 (x11.tmod 100000000)).tdiv 10000)).tdiv 100)) * 2))), (11, .int .u32 (wu32 (((wu32 ((wu32 (x11.tmod 100000000)).tdiv 10000)).tmod 100) * 2))), (55, .slice A_a0 ((st (st x14 (wi64 (x12 - 3)) (bt longT0 (wu32 ((wu32 ((wu32 (((wu32 (x11.tmod 100000000)).tmod 10000).tdiv 100)) * 2)) + 1)))) (wi64 (x12 - 4)) (bt longT0 (wu32 ((wu32 (((wu32 (x11.tmod 100000000)).tmod 10000).tdiv 100)) * 2)))).length) c_a0), (56, .int .i64 x12), (57, .int .i64 (wi64 (x12 - 3))), (58, .slice A_a0 ((st (st x14 (wi64 (x12 - 3)) (bt longT0 (wu32 ((wu32 ((wu32 (((wu32 (x11.tmod 100000000)).tmod 10000).tdiv 100)) * 2)) + 1)))) (wi64 (x12 - 4)) (bt longT0 (wu32 ((wu32 (((wu32 (x11.tmod 100000000)).tmod 10000).tdiv 100)) * 2)))).length) c_a0), (59, .int .i64 x12), (60, .int .i64 (wi64 (x12 - 4))), (61, .int .u32 (wu32 ((wu32 (((wu32 (x11.tmod 100000000)).tmod 10000).tdiv 100)) * 2))), (62, .int .u32 (wu32 ((wu32 ((wu32 (((wu32 (x11.tmod 100000000)).tmod 10000).tdiv 100)) * 2)) + 1))), (63, .int .u8 (bt longT0 (wu32 ((wu32 ((wu32 (((wu32 (x11.tmod 100000000)).tmod 10000).tdiv 100)) * 2)) + 1)))), (64, .int .u32 (wu32 ((wu32 (((wu32 (x11.tmod 100000000)).tmod 10000).tdiv 100)) * 2))), (65, .int .u8 (bt longT0 (wu32 ((wu32 (((wu32 (x11.tmod 100000000)).tmod 10000).tdiv 100)) * 2))))]) (by simp only [st_length]; kernel_rfl) ?_
            refine GmT.done (by kernel_rfl) ?_
            have e := someS h2
            subst e
            exact Qn.thenJ fun a ha => ⟨st (st x14 (wi64 (x12 - 3)) (bt longT0 (wu32 ((wu32 ((wu32 (((wu32 (x11.tmod 100000000)).tmod 10000).tdiv 100)) * 2)) + 1)))) (wi64 (x12 - 4)) (bt longT0 (wu32 ((wu32 (((wu32 (x11.tmod 100000000)).tmod 10000).tdiv 100)) * 2))), rfl, ha.keep [0, 1, 4, 10, 11] (by kernel_rfl), hI⟩
        ·
          rintro a w ⟨x36, rfl, ha, hI⟩
          try dsimp only at h1
          refine CodT.of ?_ ha
          obtain ⟨r2, h2, h1⟩ := bindS h1
          refine CodT.meet (fun a w => ∃ (x58 : (List Int)), x58 = r2 ∧ Fr 167 [(0, .slice A_a0 x58.length c_a0), (1, .int .u64 (wu64 (x11.tdiv 100000000))), (4, .int .i64 x12), (10, .int .u32 (wu32 ((wu32 ((wu32 ((wu32 (x11.tmod 100000000)).tdiv 10000)).tdiv 100)) * 2)))] a ∧ Inv w0 Z w (star (winS WT wp wq A_a0 c_a0 x58) A)) ?_ ?_
          ·
            refine CodT.drawI (n := 15) [12, 14] (by kernel_rfl) (by kernel_rfl) hI ?_
            intro w hI
            refine GmT.p' 0 68 (.slice A_a0 x36.length c_a0) (by kernel_rfl) (by kernel_rfl) ?_
            refine GmT.p' 1 69 (.int .i64 x12) (by kernel_rfl) (by kernel_rfl) ?_
            refine GmT.p' 2 70 (.int .i64 (wi64 (x12 - 5))) (by kernel_rfl) (by kernel_rfl) ?_
            refine GmT.p' 3 71 (.slice A_a0 x36.length c_a0) (by kernel_rfl) (by kernel_rfl) ?_
            refine GmT.p' 4 72 (.int .i64 x12) (by kernel_rfl) (by kernel_rfl) ?_
            refine GmT.p' 5 73 (.int .i64 (wi64 (x12 - 6))) (by kernel_rfl) (by kernel_rfl) ?_
            refine GmT.p' 6 74 (.int .u32 (wu32 (((wu32 ((wu32 (x11.tmod 100000000)).tdiv 10000)).tmod 100) * 2))) (by kernel_rfl) (by kernel_rfl) ?_
            refine GmT.p' 7 75 (.int .u32 (wu32 ((wu32 (((wu32 ((wu32 (x11.tmod 100000000)).tdiv 10000)).tmod 100) * 2)) + 1))) (by kernel_rfl) (by kernel_rfl) ?_
            refine GmT.p' 9 77 (.int .u32 (wu32 (((wu32 ((wu32 (x11.tmod 100000000)).tdiv 10000)).tmod 100) * 2))) (by kernel_rfl) (by kernel_rfl) ?_
            obtain ⟨hg62, h2⟩ := guardS h2
            refine GmT.r (i := 8) 2 (by kernel_rfl) (by kernel_rfl) (Yl.indexStr (d := 76) (T := 9) (k := .u32) (j := wu32 ((wu32 (((wu32 ((wu32 (x11.tmod 100000000)).tdiv 10000)).tmod 100) * 2)) + 1)) (s := longT0) (by kernel_rfl) Go.Proofs.Try.underlying9 hg62.1 hg62.2) hI ?_
            obtain ⟨hg63, h2⟩ := guardS h2
            obtain ⟨g64, hA65, hr66, hl67⟩ := winS_get hI hg63.1 hg63.2
            refine GmT.r (i := 11) 2 (by kernel_rfl) (by kernel_rfl) (Yl.indexSlice (d := 79) (T := 37) (cc := c_a0) (k := .i64) (j := wi64 (x12 - 5)) (g := g64) (o := 1) (by kernel_rfl) Go.Proofs.Try.underlying37 ty5 hA65 hg63.1 hg63.2) hI ?_
            refine GmT.several [10, 12] (by kernel_rfl) rfl ?_
            intro i hi; simp only [List.mem_cons, List.not_mem_nil, or_false] at hi; rcases hi with rfl | rfl
            ·
              obtain ⟨hg68, h2⟩ := guardS h2
              rw [lst_set]
              refine (Does.yi (Yl.indexStr (d := 78) (T := 9) (k := .u32) (j := wu32 (((wu32 ((wu32 (x11.tmod 100000000)).tdiv 10000)).tmod 100) * 2)) (s := longT0) (by kernel_rfl) Go.Proofs.Try.underlying9 hg68.1 hg68.2) hI ?_)
              refine ⟨fun _ h => h, ?_⟩
              refine GmT.o (i := 12) (by kernel_rfl) (Does.storeWin (T := 5) (j := wi64 (x12 - 5)) (k := 0) (v := .int .u8 (bt longT0 (wu32 ((wu32 (((wu32 ((wu32 (x11.tmod 100000000)).tdiv 10000)).tmod 100) * 2)) + 1)))) (vs := ([.int .u8 (bt longT0 (wu32 ((wu32 (((wu32 ((wu32 (x11.tmod 100000000)).tdiv 10000)).tmod 100) * 2)) + 1)))] : List Value)) (bt longT0 (wu32 ((wu32 (((wu32 ((wu32 (x11.tmod 100000000)).tdiv 10000)).tmod 100) * 2)) + 1))) (by kernel_rfl) ty5 hA65 hI hg63.1 hg63.2 (by kernel_rfl) (by kernel_rfl) (by kernel_rfl) (by kernel_rfl) (by kernel_rfl) ?_)
              intro w hI
              refine ⟨fun h => absurd h (by decide), ?_⟩
              refine GmT.keep [0, 1, 4, 10, 11, 68, 69, 70, 71, 72, 73, 74, 75, 76, 77, 78] (S' := [(0, .slice A_a0 ((st x36 (wi64 (x12 - 5)) (bt longT0 (wu32 ((wu32 (((wu32 ((wu32 (x11.tmod 100000000)).tdiv 10000)).tmod 100) * 2)) + 1)))).length) c_a0), (1, .int .u64 (wu64 (x11.tdiv 100000000))), (4, .int .i64 x12), (10, .int .u32 (wu32 ((wu32 ((wu32 ((wu32 (x11.tmod 100000000)).tdiv 10000)).tdiv 100)) * 2))), (11, .int .u32 (wu32 (((wu32 ((wu32 (x11.tmod 100000000)).tdiv 10000)).tmod 100) * 2))), (68, .slice A_a0 ((st x36 (wi64 (x12 - 5)) (bt longT0 (wu32 ((wu32 (((wu32 ((wu32 (x11.tmod 100000000)).tdiv 10000)).tmod 100) * 2)) + 1)))).length) c_a0), (69, .int .i64 x12), (70, .int .i64 (wi64 (x12 - 5))), (71, .slice A_a0 ((st x36 (wi64 (x12 - 5)) (bt longT0 (wu32 ((wu32 (((wu32 ((wu32 (x11.tmod 100000000)).tdiv 10000)).tmod 100) * 2)) + 1)))).length) c_a0), (72, .int .i64 x12), (73, .int .i64 (wi64 (x12 - 6))), (74, .int .u32 (wu32 (((wu32 ((wu32 (x11.tmod 100000000)).tdiv 10000)).tmod 100) * 2))), (75, .int .u32 (wu32 ((wu32 (((wu32 ((wu32 (x11.tmod 100000000)).tdiv 10000)).tmod 100) * 2)) + 1))), (76, .int .u8 (bt longT0 (wu32 ((wu32 (((wu32 ((wu32 (x11.tmod 100000000)).tdiv 10000)).tmod 100) * 2)) + 1)))), (77, .int .u32 (wu32 (((wu32 ((wu32 (x11.tmod 100000000)).tdiv 10000)).tmod 100) * 2))), (78, .int .u8 (bt longT0 (wu32 (((wu32 ((wu32 (x11.tmod 100000000)).tdiv 10000)).tmod 100) * 2))))]) (by simp only [st_length]; kernel_rfl) ?_
              obtain ⟨hg69, h2⟩ := guardS h2
              obtain ⟨g70, hA71, hr72, hl73⟩ := winS_get hI hg69.1 hg69.2
              refine GmT.o (i := 13) (by kernel_rfl) (Does.yi (Yl.indexSlice (d := 80) (T := 37) (cc := c_a0) (k := .i64) (j := wi64 (x12 - 6)) (g := g70) (o := 1) (by kernel_rfl) Go.Proofs.Try.underlying37 ty5 hA71 hg69.1 hg69.2) hI ?_)
              refine ⟨fun _ h => h, ?_⟩
              refine GmT.o (i := 14) (by kernel_rfl) (Does.storeWin (T := 5) (j := wi64 (x12 - 6)) (k := 0) (v := .int .u8 (bt longT0 (wu32 (((wu32 ((wu32 (x11.tmod 100000000)).tdiv 10000)).tmod 100) * 2)))) (vs := ([.int .u8 (bt longT0 (wu32 (((wu32 ((wu32 (x11.tmod 100000000)).tdiv 10000)).tmod 100) * 2)))] : List Value)) (bt longT0 (wu32 (((wu32 ((wu32 (x11.tmod 100000000)).tdiv 10000)).tmod 100) * 2))) (by kernel_rfl) ty5 hA71 hI hg69.1 hg69.2 (by kernel_rfl) (by kernel_rfl) (by kernel_rfl) (by kernel_rfl) (by kernel_rfl) ?_)
              intro w hI
              refine ⟨fun h => absurd h (by decide), ?_⟩
              refine GmT.keep [0, 1, 4, 10, 11, 68, 69, 70, 71, 72, 73, 74, 75, 76, 77, 78] (S' := [(0, .slice A_a0 ((st (st x36 (wi64 (x12 - 5)) (bt longT0 (wu32 ((wu32 (((wu32 ((wu32 (x11.tmod 100000000)).tdiv 10000)).tmod 100) * 2)) + 1)))) (wi64 (x12 - 6)) (bt longT0 (wu32 (((wu32 ((wu32 (x11.tmod 100000000)).tdiv 10000)).tmod 100) * 2)))).length) c_a0), (1, .int .u64 (wu64 (x11.tdiv 100000000))), (4, .int .i64 x12), (10, .int .u32 (wu32 ((wu32 ((wu32 ((wu32 (x11.tmod 100000000)).tdiv 10000)).tdiv 100)) * 2))), (11, .int .u32 (wu32 (((wu32 ((wu32 (x11.tmod 100000000)).tdiv 10000)).tmod 100) * 2))), (68, .slice A_a0 ((st (st x36 (wi64 (x12 - 5)) (bt longT0 (wu32 ((wu32 (((wu32 ((wu32 (x11.tmod 100000000)).tdiv 10000)).tmod 100) * 2)) + 1)))) (wi64 (x12 - 6)) (bt longT0 (wu32 (((wu32 ((wu32 (x11.tmod 100000000)).tdiv 10000)).tmod 100) * 2)))).length) c_a0), (69, .int .i64 x12), (70, .int .i64 (wi64 (x12 - 5))), (71, .slice A_a0 ((st (st x36 (wi64 (x12 - 5)) (bt longT0 (wu32 ((wu32 (((wu32 ((wu32 (x11.tmod 100000000)).tdiv 10000)).tmod 100) * 2)) + 1)))) (wi64 (x12 - 6)) (bt longT0 (wu32 (((wu32 ((wu32 (x11.tmod 100000000)).tdiv 10000)).tmod 100) * 2)))).length) c_a0), (72, .int .i64 x12), (73, .int .i64 (wi64 (x12 - 6))), (74, .int .u32 (wu32 (((wu32 ((wu32 (x11.tmod 100000000)).tdiv 10000)).tmod 100) * 2))), (75, .int .u32 (wu32 ((wu32 (((wu32 ((wu32 (x11.tmod 100000000)).tdiv 10000)).tmod 100) * 2)) + 1))), (76, .int .u8 (bt longT0 (wu32 ((wu32 (((wu32 ((wu32 (x11.tmod 100000000)).tdiv 10000)).tmod 100) * 2)) + 1)))), (77, .int .u32 (wu32 (((wu32 ((wu32 (x11.tmod 100000000)).tdiv 10000)).tmod 100) * 2))), (78, .int .u8 (bt longT0 (wu32 (((wu32 ((wu32 (x11.tmod 100000000)).tdiv 10000)).tmod 100) * 2))))]) (by simp only [st_length]; kernel_rfl) ?_
              refine GmT.done (by kernel_rfl) ?_
              have e := someS h2
              subst e
              exact Qn.thenJ fun a ha => ⟨st (st x36 (wi64 (x12 - 5)) (bt longT0 (wu32 ((wu32 (((wu32 ((wu32 (x11.tmod 100000000)).tdiv 10000)).tmod 100) * 2)) + 1)))) (wi64 (x12 - 6)) (bt longT0 (wu32 (((wu32 ((wu32 (x11.tmod 100000000)).tdiv 10000)).tmod 100) * 2))), rfl, ha.keep [0, 1, 4, 10] (by kernel_rfl), hI⟩
            ·
              rw [lst_set]
              refine (Does.storeWin (T := 5) (j := wi64 (x12 - 5)) (k := 0) (v := .int .u8 (bt longT0 (wu32 ((wu32 (((wu32 ((wu32 (x11.tmod 100000000)).tdiv 10000)).tmod 100) * 2)) + 1)))) (vs := ([.int .u8 (bt longT0 (wu32 ((wu32 (((wu32 ((wu32 (x11.tmod 100000000)).tdiv 10000)).tmod 100) * 2)) + 1)))] : List Value)) (bt longT0 (wu32 ((wu32 (((wu32 ((wu32 (x11.tmod 100000000)).tdiv 10000)).tmod 100) * 2)) + 1))) (by kernel_rfl) ty5 hA65 hI hg63.1 hg63.2 (by kernel_rfl) (by kernel_rfl) (by kernel_rfl) (by kernel_rfl) (by kernel_rfl) ?_)
              intro w hI
              refine ⟨fun h => absurd h (by decide), ?_⟩
              refine GmT.keep [0, 1, 4, 10, 11, 68, 69, 70, 71, 72, 73, 74, 75, 76, 77] (S' := [(0, .slice A_a0 ((st x36 (wi64 (x12 - 5)) (bt longT0 (wu32 ((wu32 (((wu32 ((wu32 (x11.tmod 100000000)).tdiv 10000)).tmod 100) * 2)) + 1)))).length) c_a0), (1, .int .u64 (wu64 (x11.tdiv 100000000))), (4, .int .i64 x12), (10, .int .u32 (wu32 ((wu32 ((wu32 ((wu32 (x11.tmod 100000000)).tdiv 10000)).tdiv 100)) * 2))), (11, .int .u32 (wu32 (((wu32 ((wu32 (x11.tmod 100000000)).tdiv 10000)).tmod 100) * 2))), (68, .slice A_a0 ((st x36 (wi64 (x12 - 5)) (bt longT0 (wu32 ((wu32 (((wu32 ((wu32 (x11.tmod 100000000)).tdiv 10000)).tmod 100) * 2)) + 1)))).length) c_a0), (69, .int .i64 x12), (70, .int .i64 (wi64 (x12 - 5))), (71, .slice A_a0 ((st x36 (wi64 (x12 - 5)) (bt longT0 (wu32 ((wu32 (((wu32 ((wu32 (x11.tmod 100000000)).tdiv 10000)).tmod 100) * 2)) + 1)))).length) c_a0), (72, .int .i64 x12), (73, .int .i64 (wi64 (x12 - 6))), (74, .int .u32 (wu32 (((wu32 ((wu32 (x11.tmod 100000000)).tdiv 10000)).tmod 100) * 2))), (75, .int .u32 (wu32 ((wu32 (((wu32 ((wu32 (x11.tmod 100000000)).tdiv 10000)).tmod 100) * 2)) + 1))), (76, .int .u8 (bt longT0 (wu32 ((wu32 (((wu32 ((wu32 (x11.tmod 100000000)).tdiv 10000)).tmod 100) * 2)) + 1)))), (77, .int .u32 (wu32 (((wu32 ((wu32 (x11.tmod 100000000)).tdiv 10000)).tmod 100) * 2)))]) (by simp only [st_length]; kernel_rfl) ?_
              obtain ⟨hg74, h2⟩ := guardS h2
              refine GmT.o (i := 10) (by kernel_rfl) (Does.yi (Yl.indexStr (d := 78) (T := 9) (k := .u32) (j := wu32 (((wu32 ((wu32 (x11.tmod 100000000)).tdiv 10000)).tmod 100) * 2)) (s := longT0) (by kernel_rfl) Go.Proofs.Try.underlying9 hg74.1 hg74.2) hI ?_)
              refine ⟨fun _ h => h, ?_⟩
              obtain ⟨hg75, h2⟩ := guardS h2
              obtain ⟨g76, hA77, hr78, hl79⟩ := winS_get hI hg75.1 hg75.2
              refine GmT.o (i := 13) (by kernel_rfl) (Does.yi (Yl.indexSlice (d := 80) (T := 37) (cc := c_a0) (k := .i64) (j := wi64 (x12 - 6)) (g := g76) (o := 1) (by kernel_rfl) Go.Proofs.Try.underlying37 ty5 hA77 hg75.1 hg75.2) hI ?_)
              refine ⟨fun _ h => h, ?_⟩
              refine GmT.o (i := 14) (by kernel_rfl) (Does.storeWin (T := 5) (j := wi64 (x12 - 6)) (k := 0) (v := .int .u8 (bt longT0 (wu32 (((wu32 ((wu32 (x11.tmod 100000000)).tdiv 10000)).tmod 100) * 2)))) (vs := ([.int .u8 (bt longT0 (wu32 (((wu32 ((wu32 (x11.tmod 100000000)).tdiv 10000)).tmod 100) * 2)))] : List Value)) (bt longT0 (wu32 (((wu32 ((wu32 (x11.tmod 100000000)).tdiv 10000)).tmod 100) * 2))) (by kernel_rfl) ty5 hA77 hI hg75.1 hg75.2 (by kernel_rfl) (by kernel_rfl) (by kernel_rfl) (by kernel_rfl) (by kernel_rfl) ?_)
              intro w hI
              refine ⟨fun h => absurd h (by decide), ?_⟩
              refine GmT.keep [0, 1, 4, 10, 11, 68, 69, 70, 71, 72, 73, 74, 75, 76, 77, 78] (S' := [(0, .slice A_a0 ((st (st x36 (wi64 (x12 - 5)) (bt longT0 (wu32 ((wu32 (((wu32 ((wu32 (x11.tmod 100000000)).tdiv 10000)).tmod 100) * 2)) + 1)))) (wi64 (x12 - 6)) (bt longT0 (wu32 (((wu32 ((wu32 (x11.tmod 100000000)).tdiv 10000)).tmod 100) * 2)))).length) c_a0), (1, .int .u64 (wu64 (x11.tdiv 100000000))), (4, .int .i64 x12), (10, .int .u32 (wu32 ((wu32 ((wu32 ((wu32 (x11.tmod 100000000)).tdiv 10000)).tdiv 100)) * 2))), (11, .int .u32 (wu32 (((wu32 ((wu32 (x11.tmod 100000000)).tdiv 10000)).tmod 100) * 2))), (68, .slice A_a0 ((st (st x36 (wi64 (x12 - 5)) (bt longT0 (wu32 ((wu32 (((wu32 ((wu32 (x11.tmod 100000000)).tdiv 10000)).tmod 100) * 2)) + 1)))) (wi64 (x12 - 6)) (bt longT0 (wu32 (((wu32 ((wu32 (x11.tmod 100000000)).tdiv 10000)).tmod 100) * 2)))).length) c_a0), (69, .int .i64 x12), (70, .int .i64 (wi64 (x12 - 5))), (71, .slice A_a0 ((st (st x36 (wi64 (x12 - 5)) (bt longT0 (wu32 ((wu32 (((wu32 ((wu32 (x11.tmod 100000000)).tdiv 10000)).tmod 100) * 2)) + 1)))) (wi64 (x12 - 6)) (bt longT0 (wu32 (((wu32 ((wu32 (x11.tmod 100000000)).tdiv 10000)).tmod 100) * 2)))).length) c_a0), (72, .int .i64 x12), (73, .int .i64 (wi64 (x12 - 6))), (74, .int .u32 (wu32 (((wu32 ((wu32 (x11.tmod 100000000)).tdiv 10000)).tmod 100) * 2))), (75, .int .u32 (wu32 ((wu32 (((wu32 ((wu32 (x11.tmod 100000000)).tdiv 10000)).tmod 100) * 2)) + 1))), (76, .int .u8 (bt longT0 (wu32 ((wu32 (((wu32 ((wu32 (x11.tmod 100000000)).tdiv 10000)).tmod 100) * 2)) + 1)))), (77, .int .u32 (wu32 (((wu32 ((wu32 (x11.tmod 100000000)).tdiv 10000)).tmod 100) * 2))), (78, .int .u8 (bt longT0 (wu32 (((wu32 ((wu32 (x11.tmod 100000000)).tdiv 10000)).tmod 100) * 2))))]) (by simp only [st_length]; kernel_rfl) ?_
              refine GmT.done (by kernel_rfl) ?_
              have e := someS h2
              subst e
              exact Qn.thenJ fun a ha => ⟨st (st x36 (wi64 (x12 - 5)) (bt longT0 (wu32 ((wu32 (((wu32 ((wu32 (x11.tmod 100000000)).tdiv 10000)).tmod 100) * 2)) + 1)))) (wi64 (x12 - 6)) (bt longT0 (wu32 (((wu32 ((wu32 (x11.tmod 100000000)).tdiv 10000)).tmod 100) * 2))), rfl, ha.keep [0, 1, 4, 10] (by kernel_rfl), hI⟩
          ·
            rintro a w ⟨x58, rfl, ha, hI⟩
            try dsimp only at h1
            refine CodT.of ?_ ha
            obtain ⟨r2, h2, h1⟩ := bindS h1
            refine CodT.meet (fun a w => ∃ (x80 : (List Int)), x80 = r2 ∧ Fr 167 [(0, .slice A_a0 x80.length c_a0), (1, .int .u64 (wu64 (x11.tdiv 100000000))), (4, .int .i64 x12)] a ∧ Inv w0 Z w (star (winS WT wp wq A_a0 c_a0 x80) A)) ?_ ?_
            ·
              refine CodT.drawI (n := 15) [12, 14] (by kernel_rfl) (by kernel_rfl) hI ?_
              intro w hI
              refine GmT.p' 0 81 (.slice A_a0 x58.length c_a0) (by kernel_rfl) (by kernel_rfl) ?_
              refine GmT.p' 1 82 (.int .i64 x12) (by kernel_rfl) (by kernel_rfl) ?_
              refine GmT.p' 2 83 (.int .i64 (wi64 (x12 - 7))) (by kernel_rfl) (by kernel_rfl) ?_
              refine GmT.p' 3 84 (.slice A_a0 x58.length c_a0) (by kernel_rfl) (by kernel_rfl) ?_
              refine GmT.p' 4 85 (.int .i64 x12) (by kernel_rfl) (by kernel_rfl) ?_
              refine GmT.p' 5 86 (.int .i64 (wi64 (x12 - 8))) (by kernel_rfl) (by kernel_rfl) ?_
              refine GmT.p' 6 87 (.int .u32 (wu32 ((wu32 ((wu32 ((wu32 (x11.tmod 100000000)).tdiv 10000)).tdiv 100)) * 2))) (by kernel_rfl) (by kernel_rfl) ?_
              refine GmT.p' 7 88 (.int .u32 (wu32 ((wu32 ((wu32 ((wu32 ((wu32 (x11.tmod 100000000)).tdiv 10000)).tdiv 100)) * 2)) + 1))) (by kernel_rfl) (by kernel_rfl) ?_
              refine GmT.p' 9 90 (.int .u32 (wu32 ((wu32 ((wu32 ((wu32 (x11.tmod 100000000)).tdiv 10000)).tdiv 100)) * 2))) (by kernel_rfl) (by kernel_rfl) ?_
              obtain ⟨hg84, h2⟩ := guardS h2
              refine GmT.r (i := 8) 2 (by kernel_rfl) (by kernel_rfl) (Yl.indexStr (d := 89) (T := 9) (k := .u32) (j := wu32 ((wu32 ((wu32 ((wu32 ((wu32 (x11.tmod 100000000)).tdiv 10000)).tdiv 100)) * 2)) + 1)) (s := longT0) (by kernel_rfl) Go.Proofs.Try.underlying9 hg84.1 hg84.2) hI ?_
              obtain ⟨hg85, h2⟩ := guardS h2
              obtain ⟨g86, hA87, hr88, hl89⟩ := winS_get hI hg85.1 hg85.2
              refine GmT.r (i := 11) 2 (by kernel_rfl) (by kernel_rfl) (Yl.indexSlice (d := 92) (T := 37) (cc := c_a0) (k := .i64) (j := wi64 (x12 - 7)) (g := g86) (o := 1) (by kernel_rfl) Go.Proofs.Try.underlying37 ty5 hA87 hg85.1 hg85.2) hI ?_
              refine GmT.several [10, 12] (by kernel_rfl) rfl ?_
              intro i hi; simp only [List.mem_cons, List.not_mem_nil, or_false] at hi; rcases hi with rfl | rfl
              ·
                obtain ⟨hg90, h2⟩ := guardS h2
                rw [lst_set]
                refine (Does.yi (Yl.indexStr (d := 91) (T := 9) (k := .u32) (j := wu32 ((wu32 ((wu32 ((wu32 (x11.tmod 100000000)).tdiv 10000)).tdiv 100)) * 2)) (s := longT0) (by kernel_rfl) Go.Proofs.Try.underlying9 hg90.1 hg90.2) hI ?_)
                refine ⟨fun _ h => h, ?_⟩
                refine GmT.o (i := 12) (by kernel_rfl) (Does.storeWin (T := 5) (j := wi64 (x12 - 7)) (k := 0) (v := .int .u8 (bt longT0 (wu32 ((wu32 ((wu32 ((wu32 ((wu32 (x11.tmod 100000000)).tdiv 10000)).tdiv 100)) * 2)) + 1)))) (vs := ([.int .u8 (bt longT0 (wu32 ((wu32 ((wu32 ((wu32 ((wu32 (x11.tmod 100000000)).tdiv 10000)).tdiv 100)) * 2)) + 1)))] : List Value)) (bt longT0 (wu32 ((wu32 ((wu32 ((wu32 ((wu32 (x11.tmod 100000000)).tdiv 10000)).tdiv 100)) * 2)) + 1))) (by kernel_rfl) ty5 hA87 hI hg85.1 hg85.2 (by kernel_rfl) (by kernel_rfl) (by kernel_rfl) (by kernel_rfl) (by kernel_rfl) ?_)
                intro w hI
                refine ⟨fun h => absurd h (by decide), ?_⟩
                refine GmT.keep [0, 1, 4, 10, 81, 82, 83, 84, 85, 86, 87, 88, 89, 90, 91] (S' := [(0, .slice A_a0 ((st x58 (wi64 (x12 - 7)) (bt longT0 (wu32 ((wu32 ((wu32 ((wu32 ((wu32 (x11.tmod 100000000)).tdiv 10000)).tdiv 100)) * 2)) + 1)))).length) c_a0), (1, .int .u64 (wu64 (x11.tdiv 100000000))), (4, .int .i64 x12), (10, .int .u32 (wu32 ((wu32 ((wu32 ((wu32 (x11.tmod 100000000)).tdiv 10000)).tdiv 100)) * 2))), (81, .slice A_a0 ((st x58 (wi64 (x12 - 7)) (bt longT0 (wu32 ((wu32 ((wu32 ((wu32 ((wu32 (x11.tmod 100000000)).tdiv 10000)).tdiv 100)) * 2)) + 1)))).length) c_a0), (82, .int .i64 x12), (83, .int .i64 (wi64 (x12 - 7))), (84, .slice A_a0 ((st x58 (wi64 (x12 - 7)) (bt longT0 (wu32 ((wu32 ((wu32 ((wu32 ((wu32 (x11.tmod 100000000)).tdiv 10000)).tdiv 100)) * 2)) + 1)))).length) c_a0), (85, .int .i64 x12), (86, .int .i64 (wi64 (x12 - 8))), (87, .int .u32 (wu32 ((wu32 ((wu32 ((wu32 (x11.tmod 100000000)).tdiv 10000)).tdiv 100)) * 2))), (88, .int .u32 (wu32 ((wu32 ((wu32 ((wu32 ((wu32 (x11.tmod 100000000)).tdiv 10000)).tdiv 100)) * 2)) + 1))), (89, .int .u8 (bt longT0 (wu32 ((wu32 ((wu32 ((wu32 ((wu32 (x11.tmod 100000000)).tdiv 10000)).tdiv 100)) * 2)) + 1)))), (90, .int .u32 (wu32 ((wu32 ((wu32 ((wu32 (x11.tmod 100000000)).tdiv 10000)).tdiv 100)) * 2))), (91, .int .u8 (bt longT0 (wu32 ((wu32 ((wu32 ((wu32 (x11.tmod 100000000)).tdiv 10000)).tdiv 100)) * 2))))]) (by simp only [st_length]; kernel_rfl) ?_
                obtain ⟨hg91, h2⟩ := guardS h2
                obtain ⟨g92, hA93, hr94, hl95⟩ := winS_get hI hg91.1 hg91.2
                refine GmT.o (i := 13) (by kernel_rfl) (Does.yi (Yl.indexSlice (d := 93) (T := 37) (cc := c_a0) (k := .i64) (j := wi64 (x12 - 8)) (g := g92) (o := 1) (by kernel_rfl) Go.Proofs.Try.underlying37 ty5 hA93 hg91.1 hg91.2) hI ?_)
                refine ⟨fun _ h => h, ?_⟩
                refine GmT.o (i := 14) (by kernel_rfl) (Does.storeWin (T := 5) (j := wi64 (x12 - 8)) (k := 0) (v := .int .u8 (bt longT0 (wu32 ((wu32 ((wu32 ((wu32 (x11.tmod 100000000)).tdiv 10000)).tdiv 100)) * 2)))) (vs := ([.int .u8 (bt longT0 (wu32 ((wu32 ((wu32 ((wu32 (x11.tmod 100000000)).tdiv 10000)).tdiv 100)) * 2)))] : List Value)) (bt longT0 (wu32 ((wu32 ((wu32 ((wu32 (x11.tmod 100000000)).tdiv 10000)).tdiv 100)) * 2))) (by kernel_rfl) ty5 hA93 hI hg91.1 hg91.2 (by kernel_rfl) (by kernel_rfl) (by kernel_rfl) (by kernel_rfl) (by kernel_rfl) ?_)
                intro w hI
                refine ⟨fun h => absurd h (by decide), ?_⟩
                refine GmT.keep [0, 1, 4, 10, 81, 82, 83, 84, 85, 86, 87, 88, 89, 90, 91] (S' := [(0, .slice A_a0 ((st (st x58 (wi64 (x12 - 7)) (bt longT0 (wu32 ((wu32 ((wu32 ((wu32 ((wu32 (x11.tmod 100000000)).tdiv 10000)).tdiv 100)) * 2)) + 1)))) (wi64 (x12 - 8)) (bt longT0 (wu32 ((wu32 ((wu32 ((wu32 (x11.tmod 100000000)).tdiv 10000)).tdiv 100)) * 2)))).length) c_a0), (1, .int .u64 (wu64 (x11.tdiv 100000000))), (4, .int .i64 x12), (10, .int .u32 (wu32 ((wu32 ((wu32 ((wu32 (x11.tmod 100000000)).tdiv 10000)).tdiv 100)) * 2))), (81, .slice A_a0 ((st (st x58 (wi64 (x12 - 7)) (bt longT0 (wu32 ((wu32 ((wu32 ((wu32 ((wu32 (x11.tmod 100000000)).tdiv 10000)).tdiv 100)) * 2)) + 1)))) (wi64 (x12 - 8)) (bt longT0 (wu32 ((wu32 ((wu32 ((wu32 (x11.tmod 100000000)).tdiv 10000)).tdiv 100)) * 2)))).length) c_a0), (82, .int .i64 x12), (83, .int .i64 (wi64 (x12 - 7))), (84, .slice A_a0 ((st (st x58 (wi64 (x12 - 7)) (bt longT0 (wu32 ((wu32 ((wu32 ((wu32 ((wu32 (x11.tmod 100000000)).tdiv 10000)).tdiv 100)) * 2)) + 1)))) (wi64 (x12 - 8)) (bt longT0 (wu32 ((wu32 ((wu32 ((wu32 (x11.tmod 100000000)).tdiv 10000)).tdiv 100)) * 2)))).length) c_a0), (85, .int .i64 x12), (86, .int .i64 (wi64 (x12 - 8))), (87, .int .u32 (wu32 ((wu32 ((wu32 ((wu32 (x11.tmod 100000000)).tdiv 10000)).tdiv 100)) * 2))), (88, .int .u32 (wu32 ((wu32 ((wu32 ((wu32 ((wu32 (x11.tmod 100000000)).tdiv 10000)).tdiv 100)) * 2)) + 1))), (89, .int .u8 (bt longT0 (wu32 ((wu32 ((wu32 ((wu32 ((wu32 (x11.tmod 100000000)).tdiv 10000)).tdiv 100)) * 2)) + 1)))), (90, .int .u32 (wu32 ((wu32 ((wu32 ((wu32 (x11.tmod 100000000)).tdiv 10000)).tdiv 100)) * 2))), (91, .int .u8 (bt longT0 (wu32 ((wu32 ((wu32 ((wu32 (x11.tmod 100000000)).tdiv 10000)).tdiv 100)) * 2))))]) (by simp only [st_length]; kernel_rfl) ?_
                refine GmT.done (by kernel_rfl) ?_
                have e := someS h2
                subst e
                exact Qn.thenJ fun a ha => ⟨st (st x58 (wi64 (x12 - 7)) (bt longT0 (wu32 ((wu32 ((wu32 ((wu32 ((wu32 (x11.tmod 100000000)).tdiv 10000)).tdiv 100)) * 2)) + 1)))) (wi64 (x12 - 8)) (bt longT0 (wu32 ((wu32 ((wu32 ((wu32 (x11.tmod 100000000)).tdiv 10000)).tdiv 100)) * 2))), rfl, ha.keep [0, 1, 4] (by kernel_rfl), hI⟩
              ·
                rw [lst_set]
                refine (Does.storeWin (T := 5) (j := wi64 (x12 - 7)) (k := 0) (v := .int .u8 (bt longT0 (wu32 ((wu32 ((wu32 ((wu32 ((wu32 (x11.tmod 100000000)).tdiv 10000)).tdiv 100)) * 2)) + 1)))) (vs := ([.int .u8 (bt longT0 (wu32 ((wu32 ((wu32 ((wu32 ((wu32 (x11.tmod 100000000)).tdiv 10000)).tdiv 100)) * 2)) + 1)))] : List Value)) (bt longT0 (wu32 ((wu32 ((wu32 ((wu32 ((wu32 (x11.tmod 100000000)).tdiv 10000)).tdiv 100)) * 2)) + 1))) (by kernel_rfl) ty5 hA87 hI hg85.1 hg85.2 (by kernel_rfl) (by kernel_rfl) (by kernel_rfl) (by kernel_rfl) (by kernel_rfl) ?_)
                intro w hI
                refine ⟨fun h => absurd h (by decide), ?_⟩
                refine GmT.keep [0, 1, 4, 10, 81, 82, 83, 84, 85, 86, 87, 88, 89, 90] (S' := [(0, .slice A_a0 ((st x58 (wi64 (x12 - 7)) (bt longT0 (wu32 ((wu32 ((wu32 ((wu32 ((wu32 (x11.tmod 100000000)).tdiv 10000)).tdiv 100)) * 2)) + 1)))).length) c_a0), (1, .int .u64 (wu64 (x11.tdiv 100000000))), (4, .int .i64 x12), (10, .int .u32 (wu32 ((wu32 ((wu32 ((wu32 (x11.tmod 100000000)).tdiv 10000)).tdiv 100)) * 2))), (81, .slice A_a0 ((st x58 (wi64 (x12 - 7)) (bt longT0 (wu32 ((wu32 ((wu32 ((wu32 ((wu32 (x11.tmod 100000000)).tdiv 10000)).tdiv 100)) * 2)) + 1)))).length) c_a0), (82, .int .i64 x12), (83, .int .i64 (wi64 (x12 - 7))), (84, .slice A_a0 ((st x58 (wi64 (x12 - 7)) (bt longT0 (wu32 ((wu32 ((wu32 ((wu32 ((wu32 (x11.tmod 100000000)).tdiv 10000)).tdiv 100)) * 2)) + 1)))).length) c_a0), (85, .int .i64 x12), (86, .int .i64 (wi64 (x12 - 8))), (87, .int .u32 (wu32 ((wu32 ((wu32 ((wu32 (x11.tmod 100000000)).tdiv 10000)).tdiv 100)) * 2))), (88, .int .u32 (wu32 ((wu32 ((wu32 ((wu32 ((wu32 (x11.tmod 100000000)).tdiv 10000)).tdiv 100)) * 2)) + 1))), (89, .int .u8 (bt longT0 (wu32 ((wu32 ((wu32 ((wu32 ((wu32 (x11.tmod 100000000)).tdiv 10000)).tdiv 100)) * 2)) + 1)))), (90, .int .u32 (wu32 ((wu32 ((wu32 ((wu32 (x11.tmod 100000000)).tdiv 10000)).tdiv 100)) * 2)))]) (by simp only [st_length]; kernel_rfl) ?_
                obtain ⟨hg96, h2⟩ := guardS h2
                refine GmT.o (i := 10) (by kernel_rfl) (Does.yi (Yl.indexStr (d := 91) (T := 9) (k := .u32) (j := wu32 ((wu32 ((wu32 ((wu32 (x11.tmod 100000000)).tdiv 10000)).tdiv 100)) * 2)) (s := longT0) (by kernel_rfl) Go.Proofs.Try.underlying9 hg96.1 hg96.2) hI ?_)
                refine ⟨fun _ h => h, ?_⟩
                obtain ⟨hg97, h2⟩ := guardS h2
                obtain ⟨g98, hA99, hr100, hl101⟩ := winS_get hI hg97.1 hg97.2
                refine GmT.o (i := 13) (by kernel_rfl) (Does.yi (Yl.indexSlice (d := 93) (T := 37) (cc := c_a0) (k := .i64) (j := wi64 (x12 - 8)) (g := g98) (o := 1) (by kernel_rfl) Go.Proofs.Try.underlying37 ty5 hA99 hg97.1 hg97.2) hI ?_)
                refine ⟨fun _ h => h, ?_⟩
                refine GmT.o (i := 14) (by kernel_rfl) (Does.storeWin (T := 5) (j := wi64 (x12 - 8)) (k := 0) (v := .int .u8 (bt longT0 (wu32 ((wu32 ((wu32 ((wu32 (x11.tmod 100000000)).tdiv 10000)).tdiv 100)) * 2)))) (vs := ([.int .u8 (bt longT0 (wu32 ((wu32 ((wu32 ((wu32 (x11.tmod 100000000)).tdiv 10000)).tdiv 100)) * 2)))] : List Value)) (bt longT0 (wu32 ((wu32 ((wu32 ((wu32 (x11.tmod 100000000)).tdiv 10000)).tdiv 100)) * 2))) (by kernel_rfl) ty5 hA99 hI hg97.1 hg97.2 (by kernel_rfl) (by kernel_rfl) (by kernel_rfl) (by kernel_rfl) (by kernel_rfl) ?_)
                intro w hI
                refine ⟨fun h => absurd h (by decide), ?_⟩
                refine GmT.keep [0, 1, 4, 10, 81, 82, 83, 84, 85, 86, 87, 88, 89, 90, 91] (S' := [(0, .slice A_a0 ((st (st x58 (wi64 (x12 - 7)) (bt longT0 (wu32 ((wu32 ((wu32 ((wu32 ((wu32 (x11.tmod 100000000)).tdiv 10000)).tdiv 100)) * 2)) + 1)))) (wi64 (x12 - 8)) (bt longT0 (wu32 ((wu32 ((wu32 ((wu32 (x11.tmod 100000000)).tdiv 10000)).tdiv 100)) * 2)))).length) c_a0), (1, .int .u64 (wu64 (x11.tdiv 100000000))), (4, .int .i64 x12), (10, .int .u32 (wu32 ((wu32 ((wu32 ((wu32 (x11.tmod 100000000)).tdiv 10000)).tdiv 100)) * 2))), (81, .slice A_a0 ((st (st x58 (wi64 (x12 - 7)) (bt longT0 (wu32 ((wu32 ((wu32 ((wu32 ((wu32 (x11.tmod 100000000)).tdiv 10000)).tdiv 100)) * 2)) + 1)))) (wi64 (x12 - 8)) (bt longT0 (wu32 ((wu32 ((wu32 ((wu32 (x11.tmod 100000000)).tdiv 10000)).tdiv 100)) * 2)))).length) c_a0), (82, .int .i64 x12), (83, .int .i64 (wi64 (x12 - 7))), (84, .slice A_a0 ((st (st x58 (wi64 (x12 - 7)) (bt longT0 (wu32 ((wu32 ((wu32 ((wu32 ((wu32 (x11.tmod 100000000)).tdiv 10000)).tdiv 100)) * 2)) + 1)))) (wi64 (x12 - 8)) (bt longT0 (wu32 ((wu32 ((wu32 ((wu32 (x11.tmod 100000000)).tdiv 10000)).tdiv 100)) * 2)))).length) c_a0), (85, .int .i64 x12), (86, .int .i64 (wi64 (x12 - 8))), (87, .int .u32 (wu32 ((wu32 ((wu32 ((wu32 (x11.tmod 100000000)).tdiv 10000)).tdiv 100)) * 2))), (88, .int .u32 (wu32 ((wu32 ((wu32 ((wu32 ((wu32 (x11.tmod 100000000)).tdiv 10000)).tdiv 100)) * 2)) + 1))), (89, .int .u8 (bt longT0 (wu32 ((wu32 ((wu32 ((wu32 ((wu32 (x11.tmod 100000000)).tdiv 10000)).tdiv 100)) * 2)) + 1)))), (90, .int .u32 (wu32 ((wu32 ((wu32 ((wu32 (x11.tmod 100000000)).tdiv 10000)).tdiv 100)) * 2))), (91, .int .u8 (bt longT0 (wu32 ((wu32 ((wu32 ((wu32 (x11.tmod 100000000)).tdiv 10000)).tdiv 100)) * 2))))]) (by simp only [st_length]; kernel_rfl) ?_
                refine GmT.done (by kernel_rfl) ?_
                have e := someS h2
                subst e
                exact Qn.thenJ fun a ha => ⟨st (st x58 (wi64 (x12 - 7)) (bt longT0 (wu32 ((wu32 ((wu32 ((wu32 ((wu32 (x11.tmod 100000000)).tdiv 10000)).tdiv 100)) * 2)) + 1)))) (wi64 (x12 - 8)) (bt longT0 (wu32 ((wu32 ((wu32 ((wu32 (x11.tmod 100000000)).tdiv 10000)).tdiv 100)) * 2))), rfl, ha.keep [0, 1, 4] (by kernel_rfl), hI⟩
            ·
              rintro a w ⟨x80, rfl, ha, hI⟩
              try dsimp only at h1
              refine CodT.of ?_ ha
              refine CodT.regionL [0, 1, 2] (by kernel_rfl) ?_
              refine OpsT.pures (r := []) [0, 1, 2] [0, 1, 4] (S' := [(0, .slice A_a0 x80.length c_a0), (1, .int .u64 (wu64 (x11.tdiv 100000000))), (4, .int .i64 (wi64 (x12 - 8)))]) (by kernel_rfl) ?_
              refine OpsT.done ?_
              refine Qn.block_normal ?_
              exact Qn.thenJ fun a ha => ⟨k, Nat.lt_succ_self k, x80, wu64 (x11.tdiv 100000000), wi64 (x12 - 8), h1, ha.keep [0, 1, 4] (by kernel_rfl), hI⟩
    · rw [if_neg hb13] at h1
      refine CodT.no' (b := decide (x12 ≥ 8)) (by kernel_rfl) (by simpa using hb13) ?_
      refine CodT.exit ?_
      refine Qn.exit_then ?_
      refine Qn.exit_then ?_
      refine Qn.block ?_
      have e := someS h1
      subst e
      exact Qn.thenJ fun a ha => ⟨x7, x11, x12, rfl, ha.keep [0, 1, 4] (by kernel_rfl), hI⟩
  ·
    rintro a w ⟨x1, x5, x6, rfl, ha, hI⟩
    try dsimp only at h0
    refine Qn.of ?_ ha
    refine Qn.then ?_
    refine CodT.seq ?_
    refine CodT.regionL [0, 1, 2] (by kernel_rfl) ?_
    refine OpsT.pures (r := []) [0, 1, 2] [0, 4, 12] (S' := [(0, .slice A_a0 x1.length c_a0), (4, .int .i64 x6), (12, .int .u32 (wu32 x5))]) (by kernel_rfl) ?_
    refine OpsT.done ?_
    refine Qn.then ?_
    obtain ⟨r1, h1, h0⟩ := bindS h0
    refine CodT.meet (fun a w => ∃ (x102 : (List Int)) (x106 : Int) (x107 : Int), (x102, x106, x107) = r1 ∧ Fr 167 [(0, .slice A_a0 x102.length c_a0), (4, .int .i64 x106), (12, .int .u32 x107)] a ∧ Inv w0 Z w (star (winS WT wp wq A_a0 c_a0 x102) A)) ?_ ?_
    ·
      refine CodT.seq ?_
      refine CodT.regionL [0, 1] (by kernel_rfl) ?_
      refine OpsT.pures (r := []) [0, 1] [0, 4, 12, 99] (S' := [(0, .slice A_a0 x1.length c_a0), (4, .int .i64 x6), (12, .int .u32 (wu32 x5)), (99, .bool (decide (x6 ≥ 4)))]) (by kernel_rfl) ?_
      refine OpsT.done ?_
      refine Qn.then ?_
      by_cases hb108 : (decide (x6 ≥ 4)) = true
      · rw [if_pos hb108] at h1
        refine CodT.yes' (b := decide (x6 ≥ 4)) (by kernel_rfl) hb108 ?_
        refine CodT.seq ?_
        refine CodT.regionL [0, 1, 2] (by kernel_rfl) ?_
        refine OpsT.pures (r := []) [0, 1, 2] [0, 4, 12, 13] (S' := [(0, .slice A_a0 x1.length c_a0), (4, .int .i64 x6), (12, .int .u32 (wu32 x5)), (13, .int .u32 ((wu32 x5).tmod 10000))]) (by kernel_rfl) ?_
        refine OpsT.done ?_
        refine Qn.then ?_
        refine CodT.seq ?_
        refine CodT.regionL [0, 1, 2] (by kernel_rfl) ?_
        refine OpsT.pures (r := []) [0, 1, 2] [0, 4, 12, 13] (S' := [(0, .slice A_a0 x1.length c_a0), (4, .int .i64 x6), (12, .int .u32 (wu32 ((wu32 x5).tdiv 10000))), (13, .int .u32 ((wu32 x5).tmod 10000))]) (by kernel_rfl) ?_
        refine OpsT.done ?_
        refine Qn.then ?_
        refine CodT.seq ?_
        refine CodT.regionL [0, 1, 2, 3, 4, 5, 6, 7] (by kernel_rfl) ?_
        refine OpsT.pures (r := []) [0, 1, 2, 3, 4, 5, 6, 7] [0, 4, 12, 14, 15] (S' := [(0, .slice A_a0 x1.length c_a0), (4, .int .i64 x6), (12, .int .u32 (wu32 ((wu32 x5).tdiv 10000))), (14, .int .u32 (wu32 ((wu32 (((wu32 x5).tmod 10000).tdiv 100)) * 2))), (15, .int .u32 (wu32 ((((wu32 x5).tmod 10000).tmod 100) * 2)))]) (by kernel_rfl) ?_
        refine OpsT.done ?_
        refine Qn.then ?_
        obtain ⟨r2, h2, h1⟩ := bindS h1
        refine CodT.meet (fun a w => ∃ (x109 : (List Int)), x109 = r2 ∧ Fr 167 [(0, .slice A_a0 x109.length c_a0), (4, .int .i64 x6), (12, .int .u32 (wu32 ((wu32 x5).tdiv 10000))), (14, .int .u32 (wu32 ((wu32 (((wu32 x5).tmod 10000).tdiv 100)) * 2)))] a ∧ Inv w0 Z w (star (winS WT wp wq A_a0 c_a0 x109) A)) ?_ ?_
        ·
          refine CodT.drawI (n := 15) [12, 14] (by kernel_rfl) (by kernel_rfl) hI ?_
          intro w hI
          refine GmT.p' 0 110 (.slice A_a0 x1.length c_a0) (by kernel_rfl) (by kernel_rfl) ?_
          refine GmT.p' 1 111 (.int .i64 x6) (by kernel_rfl) (by kernel_rfl) ?_
          refine GmT.p' 2 112 (.int .i64 (wi64 (x6 - 1))) (by kernel_rfl) (by kernel_rfl) ?_
          refine GmT.p' 3 113 (.slice A_a0 x1.length c_a0) (by kernel_rfl) (by kernel_rfl) ?_
          refine GmT.p' 4 114 (.int .i64 x6) (by kernel_rfl) (by kernel_rfl) ?_
          refine GmT.p' 5 115 (.int .i64 (wi64 (x6 - 2))) (by kernel_rfl) (by kernel_rfl) ?_
          refine GmT.p' 6 116 (.int .u32 (wu32 ((((wu32 x5).tmod 10000).tmod 100) * 2))) (by kernel_rfl) (by kernel_rfl) ?_
          refine GmT.p' 7 117 (.int .u32 (wu32 ((wu32 ((((wu32 x5).tmod 10000).tmod 100) * 2)) + 1))) (by kernel_rfl) (by kernel_rfl) ?_
          refine GmT.p' 9 119 (.int .u32 (wu32 ((((wu32 x5).tmod 10000).tmod 100) * 2))) (by kernel_rfl) (by kernel_rfl) ?_
          obtain ⟨hg113, h2⟩ := guardS h2
          refine GmT.r (i := 8) 2 (by kernel_rfl) (by kernel_rfl) (Yl.indexStr (d := 118) (T := 9) (k := .u32) (j := wu32 ((wu32 ((((wu32 x5).tmod 10000).tmod 100) * 2)) + 1)) (s := longT0) (by kernel_rfl) Go.Proofs.Try.underlying9 hg113.1 hg113.2) hI ?_
          obtain ⟨hg114, h2⟩ := guardS h2
          obtain ⟨g115, hA116, hr117, hl118⟩ := winS_get hI hg114.1 hg114.2
          refine GmT.r (i := 11) 2 (by kernel_rfl) (by kernel_rfl) (Yl.indexSlice (d := 121) (T := 37) (cc := c_a0) (k := .i64) (j := wi64 (x6 - 1)) (g := g115) (o := 1) (by kernel_rfl) Go.Proofs.Try.underlying37 ty5 hA116 hg114.1 hg114.2) hI ?_
          refine GmT.several [10, 12] (by kernel_rfl) rfl ?_
          intro i hi; simp only [List.mem_cons, List.not_mem_nil, or_false] at hi; rcases hi with rfl | rfl
          ·
            obtain ⟨hg119, h2⟩ := guardS h2
            rw [lst_set]
            refine (Does.yi (Yl.indexStr (d := 120) (T := 9) (k := .u32) (j := wu32 ((((wu32 x5).tmod 10000).tmod 100) * 2)) (s := longT0) (by kernel_rfl) Go.Proofs.Try.underlying9 hg119.1 hg119.2) hI ?_)
            refine ⟨fun _ h => h, ?_⟩
            refine GmT.o (i := 12) (by kernel_rfl) (Does.storeWin (T := 5) (j := wi64 (x6 - 1)) (k := 0) (v := .int .u8 (bt longT0 (wu32 ((wu32 ((((wu32 x5).tmod 10000).tmod 100) * 2)) + 1)))) (vs := ([.int .u8 (bt longT0 (wu32 ((wu32 ((((wu32 x5).tmod 10000).tmod 100) * 2)) + 1)))] : List Value)) (bt longT0 (wu32 ((wu32 ((((wu32 x5).tmod 10000).tmod 100) * 2)) + 1))) (by kernel_rfl) ty5 hA116 hI hg114.1 hg114.2 (by kernel_rfl) (by kernel_rfl) (by kernel_rfl) (by kernel_rfl) (by kernel_rfl) ?_)
            intro w hI
            refine ⟨fun h => absurd h (by decide), ?_⟩
            refine GmT.keep [0, 4, 12, 14, 15, 110, 111, 112, 113, 114, 115, 116, 117, 118, 119, 120] (S' := [(0, .slice A_a0 ((st x1 (wi64 (x6 - 1)) (bt longT0 (wu32 ((wu32 ((((wu32 x5).tmod 10000).tmod 100) * 2)) + 1)))).length) c_a0), (4, .int .i64 x6), (12, .int .u32 (wu32 ((wu32 x5).tdiv 10000))), (14, .int .u32 (wu32 ((wu32 (((wu32 x5).tmod 10000).tdiv 100)) * 2))), (15, .int .u32 (wu32 ((((wu32 x5).tmod 10000).tmod 100) * 2))), (110, .slice A_a0 ((st x1 (wi64 (x6 - 1)) (bt longT0 (wu32 ((wu32 ((((wu32 x5).tmod 10000).tmod 100) * 2)) + 1)))).length) c_a0), (111, .int .i64 x6), (112, .int .i64 (wi64 (x6 - 1))), (113, .slice A_a0 ((st x1 (wi64 (x6 - 1)) (bt longT0 (wu32 ((wu32 ((((wu32 x5).tmod 10000).tmod 100) * 2)) + 1)))).length) c_a0), (114, .int .i64 x6), (115, .int .i64 (wi64 (x6 - 2))), (116, .int .u32 (wu32 ((((wu32 x5).tmod 10000).tmod 100) * 2))), (117, .int .u32 (wu32 ((wu32 ((((wu32 x5).tmod 10000).tmod 100) * 2)) + 1))), (118, .int .u8 (bt longT0 (wu32 ((wu32 ((((wu32 x5).tmod 10000).tmod 100) * 2)) + 1)))), (119, .int .u32 (wu32 ((((wu32 x5).tmod 10000).tmod 100) * 2))), (120, .int .u8 (bt longT0 (wu32 ((((wu32 x5).tmod 10000).tmod 100) * 2))))]) (by simp only [st_length]; kernel_rfl) ?_
            obtain ⟨hg120, h2⟩ := guardS h2
            obtain ⟨g121, hA122, hr123, hl124⟩ := winS_get hI hg120.1 hg120.2
            refine GmT.o (i := 13) (by kernel_rfl) (Does.yi (Yl.indexSlice (d := 122) (T := 37) (cc := c_a0) (k := .i64) (j := wi64 (x6 - 2)) (g := g121) (o := 1) (by kernel_rfl) Go.Proofs.Try.underlying37 ty5 hA122 hg120.1 hg120.2) hI ?_)
            refine ⟨fun _ h => h, ?_⟩
            refine GmT.o (i := 14) (by kernel_rfl) (Does.storeWin (T := 5) (j := wi64 (x6 - 2)) (k := 0) (v := .int .u8 (bt longT0 (wu32 ((((wu32 x5).tmod 10000).tmod 100) * 2)))) (vs := ([.int .u8 (bt longT0 (wu32 ((((wu32 x5).tmod 10000).tmod 100) * 2)))] : List Value)) (bt longT0 (wu32 ((((wu32 x5).tmod 10000).tmod 100) * 2))) (by kernel_rfl) ty5 hA122 hI hg120.1 hg120.2 (by kernel_rfl) (by kernel_rfl) (by kernel_rfl) (by kernel_rfl) (by kernel_rfl) ?_)
            intro w hI
            refine ⟨fun h => absurd h (by decide), ?_⟩
            refine GmT.keep [0, 4, 12, 14, 15, 110, 111, 112, 113, 114, 115, 116, 117, 118, 119, 120] (S' := [(0, .slice A_a0 ((st (st x1 (wi64 (x6 - 1)) (bt longT0 (wu32 ((wu32 ((((wu32 x5).tmod 10000).tmod 100) * 2)) + 1)))) (wi64 (x6 - 2)) (bt longT0 (wu32 ((((wu32 x5).tmod 10000).tmod 100) * 2)))).length) c_a0), (4, .int .i64 x6), (12, .int .u32 (wu32 ((wu32 x5).tdiv 10000))), (14, .int .u32 (wu32 ((wu32 (((wu32 x5).tmod 10000).tdiv 100)) * 2))), (15, .int .u32 (wu32 ((((wu32 x5).tmod 10000).tmod 100) * 2))), (110, .slice A_a0 ((st (st x1 (wi64 (x6 - 1)) (bt longT0 (wu32 ((wu32 ((((wu32 x5).tmod 10000).tmod 100) * 2)) + 1)))) (wi64 (x6 - 2)) (bt longT0 (wu32 ((((wu32 x5).tmod 10000).tmod 100) * 2)))).length) c_a0), (111, .int .i64 x6), (112, .int .i64 (wi64 (x6 - 1))), (113, .slice A_a0 ((st (st x1 (wi64 (x6 - 1)) (bt longT0 (wu32 ((wu32 ((((wu32 x5).tmod 10000).tmod 100) * 2)) + 1)))) (wi64 (x6 - 2)) (bt longT0 (wu32 ((((wu32 x5).tmod 10000).tmod 100) * 2)))).length) c_a0), (114, .int .i64 x6), (115, .int .i64 (wi64 (x6 - 2))), (116, .int .u32 (wu32 ((((wu32 x5).tmod 10000).tmod 100) * 2))), (117, .int .u32 (wu32 ((wu32 ((((wu32 x5).tmod 10000).tmod 100) * 2)) + 1))), (118, .int .u8 (bt longT0 (wu32 ((wu32 ((((wu32 x5).tmod 10000).tmod 100) * 2)) + 1)))), (119, .int .u32 (wu32 ((((wu32 x5).tmod 10000).tmod 100) * 2))), (120, .int .u8 (bt longT0 (wu32 ((((wu32 x5).tmod 10000).tmod 100) * 2))))]) (by simp only [st_length]; kernel_rfl) ?_
            refine GmT.done (by kernel_rfl) ?_
            have e := someS h2
            subst e
            exact Qn.thenJ fun a ha => ⟨st (st x1 (wi64 (x6 - 1)) (bt longT0 (wu32 ((wu32 ((((wu32 x5).tmod 10000).tmod 100) * 2)) + 1)))) (wi64 (x6 - 2)) (bt longT0 (wu32 ((((wu32 x5).tmod 10000).tmod 100) * 2))), rfl, ha.keep [0, 4, 12, 14] (by kernel_rfl), hI⟩
          ·
            rw [lst_set]
            refine (Does.storeWin (T := 5) (j := wi64 (x6 - 1)) (k := 0) (v := .int .u8 (bt longT0 (wu32 ((wu32 ((((wu32 x5).tmod 10000).tmod 100) * 2)) + 1)))) (vs := ([.int .u8 (bt longT0 (wu32 ((wu32 ((((wu32 x5).tmod 10000).tmod 100) * 2)) + 1)))] : List Value)) (bt longT0 (wu32 ((wu32 ((((wu32 x5).tmod 10000).tmod 100) * 2)) + 1))) (by kernel_rfl) ty5 hA116 hI hg114.1 hg114.2 (by kernel_rfl) (by kernel_rfl) (by kernel_rfl) (by kernel_rfl) (by kernel_rfl) ?_)
            intro w hI
            refine ⟨fun h => absurd h (by decide), ?_⟩
            refine GmT.keep [0, 4, 12, 14, 15, 110, 111, 112, 113, 114, 115, 116, 117, 118, 119] (S' := [(0, .slice A_a0 ((st x1 (wi64 (x6 - 1)) (bt longT0 (wu32 ((wu32 ((((wu32 x5).tmod 10000).tmod 100) * 2)) + 1)))).length) c_a0), (4, .int .i64 x6), (12, .int .u32 (wu32 ((wu32 x5).tdiv 10000))), (14, .int .u32 (wu32 ((wu32 (((wu32 x5).tmod 10000).tdiv 100)) * 2))), (15, .int .u32 (wu32 ((((wu32 x5).tmod 10000).tmod 100) * 2))), (110, .slice A_a0 ((st x1 (wi64 (x6 - 1)) (bt longT0 (wu32 ((wu32 ((((wu32 x5).tmod 10000).tmod 100) * 2)) + 1)))).length) c_a0), (111, .int .i64 x6), (112, .int .i64 (wi64 (x6 - 1))), (113, .slice A_a0 ((st x1 (wi64 (x6 - 1)) (bt longT0 (wu32 ((wu32 ((((wu32 x5).tmod 10000).tmod 100) * 2)) + 1)))).length) c_a0), (114, .int .i64 x6), (115, .int .i64 (wi64 (x6 - 2))), (116, .int .u32 (wu32 ((((wu32 x5).tmod 10000).tmod 100) * 2))), (117, .int .u32 (wu32 ((wu32 ((((wu32 x5).tmod 10000).tmod 100) * 2)) + 1))), (118, .int .u8 (bt longT0 (wu32 ((wu32 ((((wu32 x5).tmod 10000).tmod 100) * 2)) + 1)))), (119, .int .u32 (wu32 ((((wu32 x5).tmod 10000).tmod 100) * 2)))]) (by simp only [st_length]; kernel_rfl) ?_
            obtain ⟨hg125, h2⟩ := guardS h2
            refine GmT.o (i := 10) (by kernel_rfl) (Does.yi (Yl.indexStr (d := 120) (T := 9) (k := .u32) (j := wu32 ((((wu32 x5).tmod 10000).tmod 100) * 2)) (s := longT0) (by kernel_rfl) Go.Proofs.Try.underlying9 hg125.1 hg125.2) hI ?_)
            refine ⟨fun _ h => h, ?_⟩
            obtain ⟨hg126, h2⟩ := guardS h2
            obtain ⟨g127, hA128, hr129, hl130⟩ := winS_get hI hg126.1 hg126.2
            refine GmT.o (i := 13) (by kernel_rfl) (Does.yi (Yl.indexSlice (d := 122) (T := 37) (cc := c_a0) (k := .i64) (j := wi64 (x6 - 2)) (g := g127) (o := 1) (by kernel_rfl) Go.Proofs.Try.underlying37 ty5 hA128 hg126.1 hg126.2) hI ?_)
            refine ⟨fun _ h => h, ?_⟩
            refine GmT.o (i := 14) (by kernel_rfl) (Does.storeWin (T := 5) (j := wi64 (x6 - 2)) (k := 0) (v := .int .u8 (bt longT0 (wu32 ((((wu32 x5).tmod 10000).tmod 100) * 2)))) (vs := ([.int .u8 (bt longT0 (wu32 ((((wu32 x5).tmod 10000).tmod 100) * 2)))] : List Value)) (bt longT0 (wu32 ((((wu32 x5).tmod 10000).tmod 100) * 2))) (by kernel_rfl) ty5 hA128 hI hg126.1 hg126.2 (by kernel_rfl) (by kernel_rfl) (by kernel_rfl) (by kernel_rfl) (by kernel_rfl) ?_)
            intro w hI
            refine ⟨fun h => absurd h (by decide), ?_⟩
            refine GmT.keep [0, 4, 12, 14, 15, 110, 111, 112, 113, 114, 115, 116, 117, 118, 119, 120] (S' := [(0, .slice A_a0 ((st (st x1 (wi64 (x6 - 1)) (bt longT0 (wu32 ((wu32 ((((wu32 x5).tmod 10000).tmod 100) * 2)) + 1)))) (wi64 (x6 - 2)) (bt longT0 (wu32 ((((wu32 x5).tmod 10000).tmod 100) * 2)))).length) c_a0), (4, .int .i64 x6), (12, .int .u32 (wu32 ((wu32 x5).tdiv 10000))), (14, .int .u32 (wu32 ((wu32 (((wu32 x5).tmod 10000).tdiv 100)) * 2))), (15, .int .u32 (wu32 ((((wu32 x5).tmod 10000).tmod 100) * 2))), (110, .slice A_a0 ((st (st x1 (wi64 (x6 - 1)) (bt longT0 (wu32 ((wu32 ((((wu32 x5).tmod 10000).tmod 100) * 2)) + 1)))) (wi64 (x6 - 2)) (bt longT0 (wu32 ((((wu32 x5).tmod 10000).tmod 100) * 2)))).length) c_a0), (111, .int .i64 x6), (112, .int .i64 (wi64 (x6 - 1))), (113, .slice A_a0 ((st (st x1 (wi64 (x6 - 1)) (bt longT0 (wu32 ((wu32 ((((wu32 x5).tmod 10000).tmod 100) * 2)) + 1)))) (wi64 (x6 - 2)) (bt longT0 (wu32 ((((wu32 x5).tmod 10000).tmod 100) * 2)))).length) c_a0), (114, .int .i64 x6), (115, .int .i64 (wi64 (x6 - 2))), (116, .int .u32 (wu32 ((((wu32 x5).tmod 10000).tmod 100) * 2))), (117, .int .u32 (wu32 ((wu32 ((((wu32 x5).tmod 10000).tmod 100) * 2)) + 1))), (118, .int .u8 (bt longT0 (wu32 ((wu32 ((((wu32 x5).tmod 10000).tmod 100) * 2)) + 1)))), (119, .int .u32 (wu32 ((((wu32 x5).tmod 10000).tmod 100) * 2))), (120, .int .u8 (bt longT0 (wu32 ((((wu32 x5).tmod 10000).tmod 100) * 2))))]) (by simp only [st_length]; kernel_rfl) ?_
            refine GmT.done (by kernel_rfl) ?_
            have e := someS h2
            subst e
            exact Qn.thenJ fun a ha => ⟨st (st x1 (wi64 (x6 - 1)) (bt longT0 (wu32 ((wu32 ((((wu32 x5).tmod 10000).tmod 100) * 2)) + 1)))) (wi64 (x6 - 2)) (bt longT0 (wu32 ((((wu32 x5).tmod 10000).tmod 100) * 2))), rfl, ha.keep [0, 4, 12, 14] (by kernel_rfl), hI⟩
        ·
          rintro a w ⟨x109, rfl, ha, hI⟩
          try dsimp only at h1
          refine CodT.of ?_ ha
          obtain ⟨r2, h2, h1⟩ := bindS h1
          refine CodT.meet (fun a w => ∃ (x131 : (List Int)), x131 = r2 ∧ Fr 167 [(0, .slice A_a0 x131.length c_a0), (4, .int .i64 x6), (12, .int .u32 (wu32 ((wu32 x5).tdiv 10000)))] a ∧ Inv w0 Z w (star (winS WT wp wq A_a0 c_a0 x131) A)) ?_ ?_
          ·
            refine CodT.drawI (n := 15) [12, 14] (by kernel_rfl) (by kernel_rfl) hI ?_
            intro w hI
            refine GmT.p' 0 123 (.slice A_a0 x109.length c_a0) (by kernel_rfl) (by kernel_rfl) ?_
            refine GmT.p' 1 124 (.int .i64 x6) (by kernel_rfl) (by kernel_rfl) ?_
            refine GmT.p' 2 125 (.int .i64 (wi64 (x6 - 3))) (by kernel_rfl) (by kernel_rfl) ?_
            refine GmT.p' 3 126 (.slice A_a0 x109.length c_a0) (by kernel_rfl) (by kernel_rfl) ?_
            refine GmT.p' 4 127 (.int .i64 x6) (by kernel_rfl) (by kernel_rfl) ?_
            refine GmT.p' 5 128 (.int .i64 (wi64 (x6 - 4))) (by kernel_rfl) (by kernel_rfl) ?_
            refine GmT.p' 6 129 (.int .u32 (wu32 ((wu32 (((wu32 x5).tmod 10000).tdiv 100)) * 2))) (by kernel_rfl) (by kernel_rfl) ?_
            refine GmT.p' 7 130 (.int .u32 (wu32 ((wu32 ((wu32 (((wu32 x5).tmod 10000).tdiv 100)) * 2)) + 1))) (by kernel_rfl) (by kernel_rfl) ?_
            refine GmT.p' 9 132 (.int .u32 (wu32 ((wu32 (((wu32 x5).tmod 10000).tdiv 100)) * 2))) (by kernel_rfl) (by kernel_rfl) ?_
            obtain ⟨hg135, h2⟩ := guardS h2
            refine GmT.r (i := 8) 2 (by kernel_rfl) (by kernel_rfl) (Yl.indexStr (d := 131) (T := 9) (k := .u32) (j := wu32 ((wu32 ((wu32 (((wu32 x5).tmod 10000).tdiv 100)) * 2)) + 1)) (s := longT0) (by kernel_rfl) Go.Proofs.Try.underlying9 hg135.1 hg135.2) hI ?_
            obtain ⟨hg136, h2⟩ := guardS h2
            obtain ⟨g137, hA138, hr139, hl140⟩ := winS_get hI hg136.1 hg136.2
            refine GmT.r (i := 11) 2 (by kernel_rfl) (by kernel_rfl) (Yl.indexSlice (d := 134) (T := 37) (cc := c_a0) (k := .i64) (j := wi64 (x6 - 3)) (g := g137) (o := 1) (by kernel_rfl) Go.Proofs.Try.underlying37 ty5 hA138 hg136.1 hg136.2) hI ?_
            refine GmT.several [10, 12] (by kernel_rfl) rfl ?_
            intro i hi; simp only [List.mem_cons, List.not_mem_nil, or_false] at hi; rcases hi with rfl | rfl
            ·
              obtain ⟨hg141, h2⟩ := guardS h2
              rw [lst_set]
              refine (Does.yi (Yl.indexStr (d := 133) (T := 9) (k := .u32) (j := wu32 ((wu32 (((wu32 x5).tmod 10000).tdiv 100)) * 2)) (s := longT0) (by kernel_rfl) Go.Proofs.Try.underlying9 hg141.1 hg141.2) hI ?_)
              refine ⟨fun _ h => h, ?_⟩
              refine GmT.o (i := 12) (by kernel_rfl) (Does.storeWin (T := 5) (j := wi64 (x6 - 3)) (k := 0) (v := .int .u8 (bt longT0 (wu32 ((wu32 ((wu32 (((wu32 x5).tmod 10000).tdiv 100)) * 2)) + 1)))) (vs := ([.int .u8 (bt longT0 (wu32 ((wu32 ((wu32 (((wu32 x5).tmod 10000).tdiv 100)) * 2)) + 1)))] : List Value)) (bt longT0 (wu32 ((wu32 ((wu32 (((wu32 x5).tmod 10000).tdiv 100)) * 2)) + 1))) (by kernel_rfl) ty5 hA138 hI hg136.1 hg136.2 (by kernel_rfl) (by kernel_rfl) (by kernel_rfl) (by kernel_rfl) (by kernel_rfl) ?_)
              intro w hI
              refine ⟨fun h => absurd h (by decide), ?_⟩
              refine GmT.keep [0, 4, 12, 14, 123, 124, 125, 126, 127, 128, 129, 130, 131, 132, 133] (S' := [(0, .slice A_a0 ((st x109 (wi64 (x6 - 3)) (bt longT0 (wu32 ((wu32 ((wu32 (((wu32 x5).tmod 10000).tdiv 100)) * 2)) + 1)))).length) c_a0), (4, .int .i64 x6), (12, .int .u32 (wu32 ((wu32 x5).tdiv 10000))), (14, .int .u32 (wu32 ((wu32 (((wu32 x5).tmod 10000).tdiv 100)) * 2))), (123, .slice A_a0 ((st x109 (wi64 (x6 - 3)) (bt longT0 (wu32 ((wu32 ((wu32 (((wu32 x5).tmod 10000).tdiv 100)) * 2)) + 1)))).length) c_a0), (124, .int .i64 x6), (125, .int .i64 (wi64 (x6 - 3))), (126, .slice A_a0 ((st x109 (wi64 (x6 - 3)) (bt longT0 (wu32 ((wu32 ((wu32 (((wu32 x5).tmod 10000).tdiv 100)) * 2)) + 1)))).length) c_a0), (127, .int .i64 x6), (128, .int .i64 (wi64 (x6 - 4))), (129, .int .u32 (wu32 ((wu32 (((wu32 x5).tmod 10000).tdiv 100)) * 2))), (130, .int .u32 (wu32 ((wu32 ((wu32 (((wu32 x5).tmod 10000).tdiv 100)) * 2)) + 1))), (131, .int .u8 (bt longT0 (wu32 ((wu32 ((wu32 (((wu32 x5).tmod 10000).tdiv 100)) * 2)) + 1)))), (132, .int .u32 (wu32 ((wu32 (((wu32 x5).tmod 10000).tdiv 100)) * 2))), (133, .int .u8 (bt longT0 (wu32 ((wu32 (((wu32 x5).tmod 10000).tdiv 100)) * 2))))]) (by simp only [st_length]; kernel_rfl) ?_
              obtain ⟨hg142, h2⟩ := guardS h2
              obtain ⟨g143, hA144, hr145, hl146⟩ := winS_get hI hg142.1 hg142.2
              refine GmT.o (i := 13) (by kernel_rfl) (Does.yi (Yl.indexSlice (d := 135) (T := 37) (cc := c_a0) (k := .i64) (j := wi64 (x6 - 4)) (g := g143) (o := 1) (by kernel_rfl) Go.Proofs.Try.underlying37 ty5 hA144 hg142.1 hg142.2) hI ?_)
              refine ⟨fun _ h => h, ?_⟩
              refine GmT.o (i := 14) (by kernel_rfl) (Does.storeWin (T := 5) (j := wi64 (x6 - 4)) (k := 0) (v := .int .u8 (bt longT0 (wu32 ((wu32 (((wu32 x5).tmod 10000).tdiv 100)) * 2)))) (vs := ([.int .u8 (bt longT0 (wu32 ((wu32 (((wu32 x5).tmod 10000).tdiv 100)) * 2)))] : List Value)) (bt longT0 (wu32 ((wu32 (((wu32 x5).tmod 10000).tdiv 100)) * 2))) (by kernel_rfl) ty5 hA144 hI hg142.1 hg142.2 (by kernel_rfl) (by kernel_rfl) (by kernel_rfl) (by kernel_rfl) (by kernel_rfl) ?_)
              intro w hI
              refine ⟨fun h => absurd h (by decide), ?_⟩
              refine GmT.keep [0, 4, 12, 14, 123, 124, 125, 126, 127, 128, 129, 130, 131, 132, 133] (S' := [(0, .slice A_a0 ((st (st x109 (wi64 (x6 - 3)) (bt longT0 (wu32 ((wu32 ((wu32 (((wu32 x5).tmod 10000).tdiv 100)) * 2)) + 1)))) (wi64 (x6 - 4)) (bt longT0 (wu32 ((wu32 (((wu32 x5).tmod 10000).tdiv 100)) * 2)))).length) c_a0), (4, .int .i64 x6), (12, .int .u32 (wu32 ((wu32 x5).tdiv 10000))), (14, .int .u32 (wu32 ((wu32 (((wu32 x5).tmod 10000).tdiv 100)) * 2))), (123, .slice A_a0 ((st (st x109 (wi64 (x6 - 3)) (bt longT0 (wu32 ((wu32 ((wu32 (((wu32 x5).tmod 10000).tdiv 100)) * 2)) + 1)))) (wi64 (x6 - 4)) (bt longT0 (wu32 ((wu32 (((wu32 x5).tmod 10000).tdiv 100)) * 2)))).length) c_a0), (124, .int .i64 x6), (125, .int .i64 (wi64 (x6 - 3))), (126, .slice A_a0 ((st (st x109 (wi64 (x6 - 3)) (bt longT0 (wu32 ((wu32 ((wu32 (((wu32 x5).tmod 10000).tdiv 100)) * 2)) + 1)))) (wi64 (x6 - 4)) (bt longT0 (wu32 ((wu32 (((wu32 x5).tmod 10000).tdiv 100)) * 2)))).length) c_a0), (127, .int .i64 x6), (128, .int .i64 (wi64 (x6 - 4))), (129, .int .u32 (wu32 ((wu32 (((wu32 x5).tmod 10000).tdiv 100)) * 2))), (130, .int .u32 (wu32 ((wu32 ((wu32 (((wu32 x5).tmod 10000).tdiv 100)) * 2)) + 1))), (131, .int .u8 (bt longT0 (wu32 ((wu32 ((wu32 (((wu32 x5).tmod 10000).tdiv 100)) * 2)) + 1)))), (132, .int .u32 (wu32 ((wu32 (((wu32 x5).tmod 10000).tdiv 100)) * 2))), (133, .int .u8 (bt longT0 (wu32 ((wu32 (((wu32 x5).tmod 10000).tdiv 100)) * 2))))]) (by simp only [st_length]; kernel_rfl) ?_
              refine GmT.done (by kernel_rfl) ?_
              have e := someS h2
              subst e
              exact Qn.thenJ fun a ha => ⟨st (st x109 (wi64 (x6 - 3)) (bt longT0 (wu32 ((wu32 ((wu32 (((wu32 x5).tmod 10000).tdiv 100)) * 2)) + 1)))) (wi64 (x6 - 4)) (bt longT0 (wu32 ((wu32 (((wu32 x5).tmod 10000).tdiv 100)) * 2))), rfl, ha.keep [0, 4, 12] (by kernel_rfl), hI⟩
            ·
              rw [lst_set]
              refine (Does.storeWin (T := 5) (j := wi64 (x6 - 3)) (k := 0) (v := .int .u8 (bt longT0 (wu32 ((wu32 ((wu32 (((wu32 x5).tmod 10000).tdiv 100)) * 2)) + 1)))) (vs := ([.int .u8 (bt longT0 (wu32 ((wu32 ((wu32 (((wu32 x5).tmod 10000).tdiv 100)) * 2)) + 1)))] : List Value)) (bt longT0 (wu32 ((wu32 ((wu32 (((wu32 x5).tmod 10000).tdiv 100)) * 2)) + 1))) (by kernel_rfl) ty5 hA138 hI hg136.1 hg136.2 (by kernel_rfl) (by kernel_rfl) (by kernel_rfl) (by kernel_rfl) (by kernel_rfl) ?_)
              intro w hI
              refine ⟨fun h => absurd h (by decide), ?_⟩
              refine GmT.keep [0, 4, 12, 14, 123, 124, 125, 126, 127, 128, 129, 130, 131, 132] (S' := [(0, .slice A_a0 ((st x109 (wi64 (x6 - 3)) (bt longT0 (wu32 ((wu32 ((wu32 (((wu32 x5).tmod 10000).tdiv 100)) * 2)) + 1)))).length) c_a0), (4, .int .i64 x6), (12, .int .u32 (wu32 ((wu32 x5).tdiv 10000))), (14, .int .u32 (wu32 ((wu32 (((wu32 x5).tmod 10000).tdiv 100)) * 2))), (123, .slice A_a0 ((st x109 (wi64 (x6 - 3)) (bt longT0 (wu32 ((wu32 ((wu32 (((wu32 x5).tmod 10000).tdiv 100)) * 2)) + 1)))).length) c_a0), (124, .int .i64 x6), (125, .int .i64 (wi64 (x6 - 3))), (126, .slice A_a0 ((st x109 (wi64 (x6 - 3)) (bt longT0 (wu32 ((wu32 ((wu32 (((wu32 x5).tmod 10000).tdiv 100)) * 2)) + 1)))).length) c_a0), (127, .int .i64 x6), (128, .int .i64 (wi64 (x6 - 4))), (129, .int .u32 (wu32 ((wu32 (((wu32 x5).tmod 10000).tdiv 100)) * 2))), (130, .int .u32 (wu32 ((wu32 ((wu32 (((wu32 x5).tmod 10000).tdiv 100)) * 2)) + 1))), (131, .int .u8 (bt longT0 (wu32 ((wu32 ((wu32 (((wu32 x5).tmod 10000).tdiv 100)) * 2)) + 1)))), (132, .int .u32 (wu32 ((wu32 (((wu32 x5).tmod 10000).tdiv 100)) * 2)))]) (by simp only [st_length]; kernel_rfl) ?_
              obtain ⟨hg147, h2⟩ := guardS h2
              refine GmT.o (i := 10) (by kernel_rfl) (Does.yi (Yl.indexStr (d := 133) (T := 9) (k := .u32) (j := wu32 ((wu32 (((wu32 x5).tmod 10000).tdiv 100)) * 2)) (s := longT0) (by kernel_rfl) Go.Proofs.Try.underlying9 hg147.1 hg147.2) hI ?_)
              refine ⟨fun _ h => h, ?_⟩
              obtain ⟨hg148, h2⟩ := guardS h2
              obtain ⟨g149, hA150, hr151, hl152⟩ := winS_get hI hg148.1 hg148.2
              refine GmT.o (i := 13) (by kernel_rfl) (Does.yi (Yl.indexSlice (d := 135) (T := 37) (cc := c_a0) (k := .i64) (j := wi64 (x6 - 4)) (g := g149) (o := 1) (by kernel_rfl) Go.Proofs.Try.underlying37 ty5 hA150 hg148.1 hg148.2) hI ?_)
              refine ⟨fun _ h => h, ?_⟩
              refine GmT.o (i := 14) (by kernel_rfl) (Does.storeWin (T := 5) (j := wi64 (x6 - 4)) (k := 0) (v := .int .u8 (bt longT0 (wu32 ((wu32 (((wu32 x5).tmod 10000).tdiv 100)) * 2)))) (vs := ([.int .u8 (bt longT0 (wu32 ((wu32 (((wu32 x5).tmod 10000).tdiv 100)) * 2)))] : List Value)) (bt longT0 (wu32 ((wu32 (((wu32 x5).tmod 10000).tdiv 100)) * 2))) (by kernel_rfl) ty5 hA150 hI hg148.1 hg148.2 (by kernel_rfl) (by kernel_rfl) (by kernel_rfl) (by kernel_rfl) (by kernel_rfl) ?_)
              intro w hI
              refine ⟨fun h => absurd h (by decide), ?_⟩
              refine GmT.keep [0, 4, 12, 14, 123, 124, 125, 126, 127, 128, 129, 130, 131, 132, 133] (S' := [(0, .slice A_a0 ((st (st x109 (wi64 (x6 - 3)) (bt longT0 (wu32 ((wu32 ((wu32 (((wu32 x5).tmod 10000).tdiv 100)) * 2)) + 1)))) (wi64 (x6 - 4)) (bt longT0 (wu32 ((wu32 (((wu32 x5).tmod 10000).tdiv 100)) * 2)))).length) c_a0), (4, .int .i64 x6), (12, .int .u32 (wu32 ((wu32 x5).tdiv 10000))), (14, .int .u32 (wu32 ((wu32 (((wu32 x5).tmod 10000).tdiv 100)) * 2))), (123, .slice A_a0 ((st (st x109 (wi64 (x6 - 3)) (bt longT0 (wu32 ((wu32 ((wu32 (((wu32 x5).tmod 10000).tdiv 100)) * 2)) + 1)))) (wi64 (x6 - 4)) (bt longT0 (wu32 ((wu32 (((wu32 x5).tmod 10000).tdiv 100)) * 2)))).length) c_a0), (124, .int .i64 x6), (125, .int .i64 (wi64 (x6 - 3))), (126, .slice A_a0 ((st (st x109 (wi64 (x6 - 3)) (bt longT0 (wu32 ((wu32 ((wu32 (((wu32 x5).tmod 10000).tdiv 100)) * 2)) + 1)))) (wi64 (x6 - 4)) (bt longT0 (wu32 ((wu32 (((wu32 x5).tmod 10000).tdiv 100)) * 2)))).length) c_a0), (127, .int .i64 x6), (128, .int .i64 (wi64 (x6 - 4))), (129, .int .u32 (wu32 ((wu32 (((wu32 x5).tmod 10000).tdiv 100)) * 2))), (130, .int .u32 (wu32 ((wu32 ((wu32 (((wu32 x5).tmod 10000).tdiv 100)) * 2)) + 1))), (131, .int .u8 (bt longT0 (wu32 ((wu32 ((wu32 (((wu32 x5).tmod 10000).tdiv 100)) * 2)) + 1)))), (132, .int .u32 (wu32 ((wu32 (((wu32 x5).tmod 10000).tdiv 100)) * 2))), (133, .int .u8 (bt longT0 (wu32 ((wu32 (((wu32 x5).tmod 10000).tdiv 100)) * 2))))]) (by simp only [st_length]; kernel_rfl) ?_
              refine GmT.done (by kernel_rfl) ?_
              have e := someS h2
              subst e
              exact Qn.thenJ fun a ha => ⟨st (st x109 (wi64 (x6 - 3)) (bt longT0 (wu32 ((wu32 ((wu32 (((wu32 x5).tmod 10000).tdiv 100)) * 2)) + 1)))) (wi64 (x6 - 4)) (bt longT0 (wu32 ((wu32 (((wu32 x5).tmod 10000).tdiv 100)) * 2))), rfl, ha.keep [0, 4, 12] (by kernel_rfl), hI⟩
          ·
            rintro a w ⟨x131, rfl, ha, hI⟩
            try dsimp only at h1
            refine CodT.of ?_ ha
            refine CodT.regionL [0, 1, 2] (by kernel_rfl) ?_
            refine OpsT.pures (r := []) [0, 1, 2] [0, 4, 12] (S' := [(0, .slice A_a0 x131.length c_a0), (4, .int .i64 (wi64 (x6 - 4))), (12, .int .u32 (wu32 ((wu32 x5).tdiv 10000)))]) (by kernel_rfl) ?_
            refine OpsT.done ?_
            have e := someS h1
            subst e
            exact Qn.thenJ fun a ha => ⟨x131, wi64 (x6 - 4), wu32 ((wu32 x5).tdiv 10000), rfl, ha.keep [0, 4, 12] (by kernel_rfl), hI⟩
      · rw [if_neg hb108] at h1
        refine CodT.no' (b := decide (x6 ≥ 4)) (by kernel_rfl) (by simpa using hb108) ?_
        refine CodT.skip ?_
        have e := someS h1
        subst e
        exact Qn.thenJ fun a ha => ⟨x1, x6, wu32 x5, rfl, ha.keep [0, 4, 12] (by kernel_rfl), hI⟩
    ·
      rintro a w ⟨x102, x106, x107, rfl, ha, hI⟩
      try dsimp only at h0
      refine CodT.of ?_ ha
      obtain ⟨r1, h1, h0⟩ := bindS h0
      refine CodT.meet (fun a w => ∃ (x153 : (List Int)) (x157 : Int) (x158 : Int), (x153, x157, x158) = r1 ∧ Fr 167 [(0, .slice A_a0 x153.length c_a0), (4, .int .i64 x157), (12, .int .u32 x158)] a ∧ Inv w0 Z w (star (winS WT wp wq A_a0 c_a0 x153) A)) ?_ ?_
      ·
        refine CodT.seq ?_
        refine CodT.regionL [0, 1] (by kernel_rfl) ?_
        refine OpsT.pures (r := []) [0, 1] [0, 4, 12, 139] (S' := [(0, .slice A_a0 x102.length c_a0), (4, .int .i64 x106), (12, .int .u32 x107), (139, .bool (decide (x106 ≥ 2)))]) (by kernel_rfl) ?_
        refine OpsT.done ?_
        refine Qn.then ?_
        by_cases hb159 : (decide (x106 ≥ 2)) = true
        · rw [if_pos hb159] at h1
          refine CodT.yes' (b := decide (x106 ≥ 2)) (by kernel_rfl) hb159 ?_
          refine CodT.seq ?_
          refine CodT.regionL [0, 1, 2, 3] (by kernel_rfl) ?_
          refine OpsT.pures (r := []) [0, 1, 2, 3] [0, 4, 12, 16] (S' := [(0, .slice A_a0 x102.length c_a0), (4, .int .i64 x106), (12, .int .u32 x107), (16, .int .u32 (wu32 ((x107.tmod 100) * 2)))]) (by kernel_rfl) ?_
          refine OpsT.done ?_
          refine Qn.then ?_
          refine CodT.seq ?_
          refine CodT.regionL [0, 1, 2] (by kernel_rfl) ?_
          refine OpsT.pures (r := []) [0, 1, 2] [0, 4, 12, 16] (S' := [(0, .slice A_a0 x102.length c_a0), (4, .int .i64 x106), (12, .int .u32 (wu32 (x107.tdiv 100))), (16, .int .u32 (wu32 ((x107.tmod 100) * 2)))]) (by kernel_rfl) ?_
          refine OpsT.done ?_
          refine Qn.then ?_
          obtain ⟨r2, h2, h1⟩ := bindS h1
          refine CodT.meet (fun a w => ∃ (x160 : (List Int)), x160 = r2 ∧ Fr 167 [(0, .slice A_a0 x160.length c_a0), (4, .int .i64 x106), (12, .int .u32 (wu32 (x107.tdiv 100)))] a ∧ Inv w0 Z w (star (winS WT wp wq A_a0 c_a0 x160) A)) ?_ ?_
          ·
            refine CodT.drawI (n := 15) [12, 14] (by kernel_rfl) (by kernel_rfl) hI ?_
            intro w hI
            refine GmT.p' 0 145 (.slice A_a0 x102.length c_a0) (by kernel_rfl) (by kernel_rfl) ?_
            refine GmT.p' 1 146 (.int .i64 x106) (by kernel_rfl) (by kernel_rfl) ?_
            refine GmT.p' 2 147 (.int .i64 (wi64 (x106 - 1))) (by kernel_rfl) (by kernel_rfl) ?_
            refine GmT.p' 3 148 (.slice A_a0 x102.length c_a0) (by kernel_rfl) (by kernel_rfl) ?_
            refine GmT.p' 4 149 (.int .i64 x106) (by kernel_rfl) (by kernel_rfl) ?_
            refine GmT.p' 5 150 (.int .i64 (wi64 (x106 - 2))) (by kernel_rfl) (by kernel_rfl) ?_
            refine GmT.p' 6 151 (.int .u32 (wu32 ((x107.tmod 100) * 2))) (by kernel_rfl) (by kernel_rfl) ?_
            refine GmT.p' 7 152 (.int .u32 (wu32 ((wu32 ((x107.tmod 100) * 2)) + 1))) (by kernel_rfl) (by kernel_rfl) ?_
            refine GmT.p' 9 154 (.int .u32 (wu32 ((x107.tmod 100) * 2))) (by kernel_rfl) (by kernel_rfl) ?_
            obtain ⟨hg164, h2⟩ := guardS h2
            refine GmT.r (i := 8) 2 (by kernel_rfl) (by kernel_rfl) (Yl.indexStr (d := 153) (T := 9) (k := .u32) (j := wu32 ((wu32 ((x107.tmod 100) * 2)) + 1)) (s := longT0) (by kernel_rfl) Go.Proofs.Try.underlying9 hg164.1 hg164.2) hI ?_
            obtain ⟨hg165, h2⟩ := guardS h2
            obtain ⟨g166, hA167, hr168, hl169⟩ := winS_get hI hg165.1 hg165.2
            refine GmT.r (i := 11) 2 (by kernel_rfl) (by kernel_rfl) (Yl.indexSlice (d := 156) (T := 37) (cc := c_a0) (k := .i64) (j := wi64 (x106 - 1)) (g := g166) (o := 1) (by kernel_rfl) Go.Proofs.Try.underlying37 ty5 hA167 hg165.1 hg165.2) hI ?_
            refine GmT.several [10, 12] (by kernel_rfl) rfl ?_
            intro i hi; simp only [List.mem_cons, List.not_mem_nil, or_false] at hi; rcases hi with rfl | rfl
            ·
              obtain ⟨hg170, h2⟩ := guardS h2
              rw [lst_set]
              refine (Does.yi (Yl.indexStr (d := 155) (T := 9) (k := .u32) (j := wu32 ((x107.tmod 100) * 2)) (s := longT0) (by kernel_rfl) Go.Proofs.Try.underlying9 hg170.1 hg170.2) hI ?_)
              refine ⟨fun _ h => h, ?_⟩
              refine GmT.o (i := 12) (by kernel_rfl) (Does.storeWin (T := 5) (j := wi64 (x106 - 1)) (k := 0) (v := .int .u8 (bt longT0 (wu32 ((wu32 ((x107.tmod 100) * 2)) + 1)))) (vs := ([.int .u8 (bt longT0 (wu32 ((wu32 ((x107.tmod 100) * 2)) + 1)))] : List Value)) (bt longT0 (wu32 ((wu32 ((x107.tmod 100) * 2)) + 1))) (by kernel_rfl) ty5 hA167 hI hg165.1 hg165.2 (by kernel_rfl) (by kernel_rfl) (by kernel_rfl) (by kernel_rfl) (by kernel_rfl) ?_)
              intro w hI
              refine ⟨fun h => absurd h (by decide), ?_⟩
              refine GmT.keep [0, 4, 12, 16, 145, 146, 147, 148, 149, 150, 151, 152, 153, 154, 155] (S' := [(0, .slice A_a0 ((st x102 (wi64 (x106 - 1)) (bt longT0 (wu32 ((wu32 ((x107.tmod 100) * 2)) + 1)))).length) c_a0), (4, .int .i64 x106), (12, .int .u32 (wu32 (x107.tdiv 100))), (16, .int .u32 (wu32 ((x107.tmod 100) * 2))), (145, .slice A_a0 ((st x102 (wi64 (x106 - 1)) (bt longT0 (wu32 ((wu32 ((x107.tmod 100) * 2)) + 1)))).length) c_a0), (146, .int .i64 x106), (147, .int .i64 (wi64 (x106 - 1))), (148, .slice A_a0 ((st x102 (wi64 (x106 - 1)) (bt longT0 (wu32 ((wu32 ((x107.tmod 100) * 2)) + 1)))).length) c_a0), (149, .int .i64 x106), (150, .int .i64 (wi64 (x106 - 2))), (151, .int .u32 (wu32 ((x107.tmod 100) * 2))), (152, .int .u32 (wu32 ((wu32 ((x107.tmod 100) * 2)) + 1))), (153, .int .u8 (bt longT0 (wu32 ((wu32 ((x107.tmod 100) * 2)) + 1)))), (154, .int .u32 (wu32 ((x107.tmod 100) * 2))), (155, .int .u8 (bt longT0 (wu32 ((x107.tmod 100) * 2))))]) (by simp only [st_length]; kernel_rfl) ?_
              obtain ⟨hg171, h2⟩ := guardS h2
              obtain ⟨g172, hA173, hr174, hl175⟩ := winS_get hI hg171.1 hg171.2
              refine GmT.o (i := 13) (by kernel_rfl) (Does.yi (Yl.indexSlice (d := 157) (T := 37) (cc := c_a0) (k := .i64) (j := wi64 (x106 - 2)) (g := g172) (o := 1) (by kernel_rfl) Go.Proofs.Try.underlying37 ty5 hA173 hg171.1 hg171.2) hI ?_)
              refine ⟨fun _ h => h, ?_⟩
              refine GmT.o (i := 14) (by kernel_rfl) (Does.storeWin (T := 5) (j := wi64 (x106 - 2)) (k := 0) (v := .int .u8 (bt longT0 (wu32 ((x107.tmod 100) * 2)))) (vs := ([.int .u8 (bt longT0 (wu32 ((x107.tmod 100) * 2)))] : List Value)) (bt longT0 (wu32 ((x107.tmod 100) * 2))) (by kernel_rfl) ty5 hA173 hI hg171.1 hg171.2 (by kernel_rfl) (by kernel_rfl) (by kernel_rfl) (by kernel_rfl) (by kernel_rfl) ?_)
              intro w hI
              refine ⟨fun h => absurd h (by decide), ?_⟩
              refine GmT.keep [0, 4, 12, 16, 145, 146, 147, 148, 149, 150, 151, 152, 153, 154, 155] (S' := [(0, .slice A_a0 ((st (st x102 (wi64 (x106 - 1)) (bt longT0 (wu32 ((wu32 ((x107.tmod 100) * 2)) + 1)))) (wi64 (x106 - 2)) (bt longT0 (wu32 ((x107.tmod 100) * 2)))).length) c_a0), (4, .int .i64 x106), (12, .int .u32 (wu32 (x107.tdiv 100))), (16, .int .u32 (wu32 ((x107.tmod 100) * 2))), (145, .slice A_a0 ((st (st x102 (wi64 (x106 - 1)) (bt longT0 (wu32 ((wu32 ((x107.tmod 100) * 2)) + 1)))) (wi64 (x106 - 2)) (bt longT0 (wu32 ((x107.tmod 100) * 2)))).length) c_a0), (146, .int .i64 x106), (147, .int .i64 (wi64 (x106 - 1))), (148, .slice A_a0 ((st (st x102 (wi64 (x106 - 1)) (bt longT0 (wu32 ((wu32 ((x107.tmod 100) * 2)) + 1)))) (wi64 (x106 - 2)) (bt longT0 (wu32 ((x107.tmod 100) * 2)))).length) c_a0), (149, .int .i64 x106), (150, .int .i64 (wi64 (x106 - 2))), (151, .int .u32 (wu32 ((x107.tmod 100) * 2))), (152, .int .u32 (wu32 ((wu32 ((x107.tmod 100) * 2)) + 1))), (153, .int .u8 (bt longT0 (wu32 ((wu32 ((x107.tmod 100) * 2)) + 1)))), (154, .int .u32 (wu32 ((x107.tmod 100) * 2))), (155, .int .u8 (bt longT0 (wu32 ((x107.tmod 100) * 2))))]) (by simp only [st_length]; kernel_rfl) ?_
              refine GmT.done (by kernel_rfl) ?_
              have e := someS h2
              subst e
              exact Qn.thenJ fun a ha => ⟨st (st x102 (wi64 (x106 - 1)) (bt longT0 (wu32 ((wu32 ((x107.tmod 100) * 2)) + 1)))) (wi64 (x106 - 2)) (bt longT0 (wu32 ((x107.tmod 100) * 2))), rfl, ha.keep [0, 4, 12] (by kernel_rfl), hI⟩
            ·
              rw [lst_set]
              refine (Does.storeWin (T := 5) (j := wi64 (x106 - 1)) (k := 0) (v := .int .u8 (bt longT0 (wu32 ((wu32 ((x107.tmod 100) * 2)) + 1)))) (vs := ([.int .u8 (bt longT0 (wu32 ((wu32 ((x107.tmod 100) * 2)) + 1)))] : List Value)) (bt longT0 (wu32 ((wu32 ((x107.tmod 100) * 2)) + 1))) (by kernel_rfl) ty5 hA167 hI hg165.1 hg165.2 (by kernel_rfl) (by kernel_rfl) (by kernel_rfl) (by kernel_rfl) (by kernel_rfl) ?_)
              intro w hI
              refine ⟨fun h => absurd h (by decide), ?_⟩
              refine GmT.keep [0, 4, 12, 16, 145, 146, 147, 148, 149, 150, 151, 152, 153, 154] (S' := [(0, .slice A_a0 ((st x102 (wi64 (x106 - 1)) (bt longT0 (wu32 ((wu32 ((x107.tmod 100) * 2)) + 1)))).length) c_a0), (4, .int .i64 x106), (12, .int .u32 (wu32 (x107.tdiv 100))), (16, .int .u32 (wu32 ((x107.tmod 100) * 2))), (145, .slice A_a0 ((st x102 (wi64 (x106 - 1)) (bt longT0 (wu32 ((wu32 ((x107.tmod 100) * 2)) + 1)))).length) c_a0), (146, .int .i64 x106), (147, .int .i64 (wi64 (x106 - 1))), (148, .slice A_a0 ((st x102 (wi64 (x106 - 1)) (bt longT0 (wu32 ((wu32 ((x107.tmod 100) * 2)) + 1)))).length) c_a0), (149, .int .i64 x106), (150, .int .i64 (wi64 (x106 - 2))), (151, .int .u32 (wu32 ((x107.tmod 100) * 2))), (152, .int .u32 (wu32 ((wu32 ((x107.tmod 100) * 2)) + 1))), (153, .int .u8 (bt longT0 (wu32 ((wu32 ((x107.tmod 100) * 2)) + 1)))), (154, .int .u32 (wu32 ((x107.tmod 100) * 2)))]) (by simp only [st_length]; kernel_rfl) ?_
              obtain ⟨hg176, h2⟩ := guardS h2
              refine GmT.o (i := 10) (by kernel_rfl) (Does.yi (Yl.indexStr (d := 155) (T := 9) (k := .u32) (j := wu32 ((x107.tmod 100) * 2)) (s := longT0) (by kernel_rfl) Go.Proofs.Try.underlying9 hg176.1 hg176.2) hI ?_)
              refine ⟨fun _ h => h, ?_⟩
              obtain ⟨hg177, h2⟩ := guardS h2
              obtain ⟨g178, hA179, hr180, hl181⟩ := winS_get hI hg177.1 hg177.2
              refine GmT.o (i := 13) (by kernel_rfl) (Does.yi (Yl.indexSlice (d := 157) (T := 37) (cc := c_a0) (k := .i64) (j := wi64 (x106 - 2)) (g := g178) (o := 1) (by kernel_rfl) Go.Proofs.Try.underlying37 ty5 hA179 hg177.1 hg177.2) hI ?_)
              refine ⟨fun _ h => h, ?_⟩
              refine GmT.o (i := 14) (by kernel_rfl) (Does.storeWin (T := 5) (j := wi64 (x106 - 2)) (k := 0) (v := .int .u8 (bt longT0 (wu32 ((x107.tmod 100) * 2)))) (vs := ([.int .u8 (bt longT0 (wu32 ((x107.tmod 100) * 2)))] : List Value)) (bt longT0 (wu32 ((x107.tmod 100) * 2))) (by kernel_rfl) ty5 hA179 hI hg177.1 hg177.2 (by kernel_rfl) (by kernel_rfl) (by kernel_rfl) (by kernel_rfl) (by kernel_rfl) ?_)
              intro w hI
              refine ⟨fun h => absurd h (by decide), ?_⟩
              refine GmT.keep [0, 4, 12, 16, 145, 146, 147, 148, 149, 150, 151, 152, 153, 154, 155] (S' := [(0, .slice A_a0 ((st (st x102 (wi64 (x106 - 1)) (bt longT0 (wu32 ((wu32 ((x107.tmod 100) * 2)) + 1)))) (wi64 (x106 - 2)) (bt longT0 (wu32 ((x107.tmod 100) * 2)))).length) c_a0), (4, .int .i64 x106), (12, .int .u32 (wu32 (x107.tdiv 100))), (16, .int .u32 (wu32 ((x107.tmod 100) * 2))), (145, .slice A_a0 ((st (st x102 (wi64 (x106 - 1)) (bt longT0 (wu32 ((wu32 ((x107.tmod 100) * 2)) + 1)))) (wi64 (x106 - 2)) (bt longT0 (wu32 ((x107.tmod 100) * 2)))).length) c_a0), (146, .int .i64 x106), (147, .int .i64 (wi64 (x106 - 1))), (148, .slice A_a0 ((st (st x102 (wi64 (x106 - 1)) (bt longT0 (wu32 ((wu32 ((x107.tmod 100) * 2)) + 1)))) (wi64 (x106 - 2)) (bt longT0 (wu32 ((x107.tmod 100) * 2)))).length) c_a0), (149, .int .i64 x106), (150, .int .i64 (wi64 (x106 - 2))), (151, .int .u32 (wu32 ((x107.tmod 100) * 2))), (152, .int .u32 (wu32 ((wu32 ((x107.tmod 100) * 2)) + 1))), (153, .int .u8 (bt longT0 (wu32 ((wu32 ((x107.tmod 100) * 2)) + 1)))), (154, .int .u32 (wu32 ((x107.tmod 100) * 2))), (155, .int .u8 (bt longT0 (wu32 ((x107.tmod 100) * 2))))]) (by simp only [st_length]; kernel_rfl) ?_
              refine GmT.done (by kernel_rfl) ?_
              have e := someS h2
              subst e
              exact Qn.thenJ fun a ha => ⟨st (st x102 (wi64 (x106 - 1)) (bt longT0 (wu32 ((wu32 ((x107.tmod 100) * 2)) + 1)))) (wi64 (x106 - 2)) (bt longT0 (wu32 ((x107.tmod 100) * 2))), rfl, ha.keep [0, 4, 12] (by kernel_rfl), hI⟩
          ·
            rintro a w ⟨x160, rfl, ha, hI⟩
            try dsimp only at h1
            refine CodT.of ?_ ha
            refine CodT.regionL [0, 1, 2] (by kernel_rfl) ?_
            refine OpsT.pures (r := []) [0, 1, 2] [0, 4, 12] (S' := [(0, .slice A_a0 x160.length c_a0), (4, .int .i64 (wi64 (x106 - 2))), (12, .int .u32 (wu32 (x107.tdiv 100)))]) (by kernel_rfl) ?_
            refine OpsT.done ?_
            have e := someS h1
            subst e
            exact Qn.thenJ fun a ha => ⟨x160, wi64 (x106 - 2), wu32 (x107.tdiv 100), rfl, ha.keep [0, 4, 12] (by kernel_rfl), hI⟩
        · rw [if_neg hb159] at h1
          refine CodT.no' (b := decide (x106 ≥ 2)) (by kernel_rfl) (by simpa using hb159) ?_
          refine CodT.skip ?_
          have e := someS h1
          subst e
          exact Qn.thenJ fun a ha => ⟨x102, x106, x107, rfl, ha.keep [0, 4, 12] (by kernel_rfl), hI⟩
      ·
        rintro a w ⟨x153, x157, x158, rfl, ha, hI⟩
        try dsimp only at h0
        refine CodT.of ?_ ha
        refine CodT.seq ?_
        refine CodT.regionL [0, 1] (by kernel_rfl) ?_
        refine OpsT.pures (r := []) [0, 1] [0, 12, 161] (S' := [(0, .slice A_a0 x153.length c_a0), (12, .int .u32 x158), (161, .bool (decide (x157 > 0)))]) (by kernel_rfl) ?_
        refine OpsT.done ?_
        refine Qn.then ?_
        by_cases hb182 : (decide (x157 > 0)) = true
        · rw [if_pos hb182] at h0
          refine CodT.yes' (b := decide (x157 > 0)) (by kernel_rfl) hb182 ?_
          refine CodT.regionL [0, 1, 2, 3, 4, 5] (by kernel_rfl) ?_
          refine OpsT.pures (r := [4, 5]) [0, 1, 2, 3] [162, 165] (S' := [(162, .slice A_a0 x153.length c_a0), (165, .int .u8 (wu8 (wu32 (48 + x158))))]) (by kernel_rfl) ?_
          obtain ⟨hg183, h0⟩ := guardS h0
          obtain ⟨g184, hA185, hr186, hl187⟩ := winS_get hI hg183.1 hg183.2
          refine OpsT.cons (Does.yi (Yl.indexSlice (d := 166) (T := 37) (cc := c_a0) (k := .i64) (j := 0) (g := g184) (o := 1) (by kernel_rfl) Go.Proofs.Try.underlying37 ty5 hA185 hg183.1 hg183.2) hI ?_)
          refine OpsT.cons (Does.storeWin (T := 5) (j := 0) (k := 0) (v := .int .u8 (wu8 (wu32 (48 + x158)))) (vs := ([.int .u8 (wu8 (wu32 (48 + x158)))] : List Value)) (wu8 (wu32 (48 + x158))) (by kernel_rfl) ty5 hA185 hI hg183.1 hg183.2 (by kernel_rfl) (by kernel_rfl) (by kernel_rfl) (by kernel_rfl) (by kernel_rfl) ?_)
          intro w hI
          refine OpsT.keep [162, 165] (S' := [(162, .slice A_a0 ((st x153 0 (wu8 (wu32 (48 + x158)))).length) c_a0), (165, .int .u8 (wu8 (wu32 (48 + x158))))]) (by simp only [st_length]; kernel_rfl) ?_
          refine OpsT.done ?_
          obtain ⟨hg188, h0⟩ := guardS h0
          have e := someS h0
          subst e
          refine Qn.keep [] (S' := []) (by kernel_rfl) ?_
          exact post_normal (v := .tuple #[]) (fun a ha => RunRes.run (vs := []) .nil ha (by kernel_rfl)) ⟨rfl, hg188, hI⟩
        · rw [if_neg hb182] at h0
          refine CodT.no' (b := decide (x157 > 0)) (by kernel_rfl) (by simpa using hb182) ?_
          refine CodT.skip ?_
          obtain ⟨hg189, h0⟩ := guardS h0
          have e := someS h0
          subst e
          refine Qn.keep [] (S' := []) (by kernel_rfl) ?_
          exact post_normal (v := .tuple #[]) (fun a ha => RunRes.run (vs := []) .nil ha (by kernel_rfl)) ⟨rfl, hg189, hI⟩
set_option maxRecDepth 100000 in
set_option maxHeartbeats 4000000 in
/-- internal/strconv.FormatInt -/
theorem c48 (w0 w : World) (Z : Hp) (A : HP) (hI : Inv w0 Z w A) (hT : Tabs Z) (a0 : Int) (a1 : Int) (r : ByteArray) (h0 : strconv_FormatInt a0 a1 = some r) :
    Calls prog 48 #[.int .i64 a0, .int .i64 a1] w (fun e w' => e = .returned (.string r) ∧ Inv w0 Z w' A) := by
  unfold strconv_FormatInt at h0
  have hg := guardS h0
  clear h0
  obtain ⟨⟨rfl, hp⟩, h0⟩ := hg
  have e4 := calls_intro (R := (fun e w' => e = .returned (.string r) ∧ Inv w0 Z w' A)) (w := w) (args := [.int .i64 a0, .int .i64 10]) (fn := Go.Proofs.Try.f48) 54 Go.Proofs.Try.func48 (by rfl) Go.Proofs.Try.ntmps48 (by kernel_rfl)
  refine e4 ?_
  clear e4
  refine CodT.seq ?_
  refine CodT.regionL [0] (by kernel_rfl) ?_
  refine OpsT.pures (r := []) [0] [0, 1] (S' := [(0, .int .i64 a0), (1, .int .i64 10)]) (by kernel_rfl) ?_
  refine OpsT.done ?_
  refine Qn.then ?_
  refine CodT.seq ?_
  refine CodT.seq ?_
  refine CodT.regionL [0, 1] (by kernel_rfl) ?_
  refine OpsT.pures (r := []) [0, 1] [0, 11] (S' := [(0, .int .i64 a0), (11, .bool true)]) (by kernel_rfl) ?_
  refine OpsT.done ?_
  refine Qn.then ?_
  refine CodT.yes' (b := true) (by kernel_rfl) rfl ?_
  refine CodT.seq ?_
  refine CodT.seq ?_
  refine CodT.regionL [0, 1, 2, 3, 4, 5] (by kernel_rfl) ?_
  refine OpsT.pures (r := [3, 4, 5]) [0, 1, 2] [0, 14] (S' := [(0, .int .i64 a0), (14, .bool (decide (0 ≤ a0)))]) (by kernel_rfl) ?_
  have hb1 : decide (0 ≤ a0) = true := by simpa using hp
  refine OpsT.keep [0, 14] (S' := [(0, .int .i64 a0), (14, .bool true)]) (by (try simp only [hb1]); kernel_rfl) ?_
  refine OpsT.pures (r := []) [3, 4, 5] [0, 17] (S' := [(0, .int .i64 a0), (17, .bool (decide (a0 < 100)))]) (by kernel_rfl) ?_
  refine OpsT.done ?_
  refine Qn.then ?_
  by_cases hb2 : a0 < 100
  · rw [if_pos hb2] at h0
    have hb3 : decide (a0 < 100) = true := by simpa using hb2
    refine CodT.yes' (b := decide (a0 < 100)) (by kernel_rfl) hb3 ?_
    refine CodT.seq ?_
    refine CodT.regionL [0, 1, 2] (by kernel_rfl) ?_
    refine OpsT.pures (r := [1, 2]) [0] [18] (S' := [(18, .int .i64 a0)]) (by kernel_rfl) ?_
    refine OpsT.cons (Does.call (d := some 19) (n := 49) (vs := [.int .i64 a0]) (by kernel_rfl) en49 (c49 w0 w _ _ hI hT a0 _ h0) ?_)
    rintro e w ⟨rfl, hI⟩
    refine ⟨_, rfl, ?_⟩
    refine OpsT.pures (r := []) [2] [4] (S' := [(4, .string r)]) (by kernel_rfl) ?_
    refine OpsT.done ?_
    refine Qn.then ?_
    refine CodT.ret ?_
    refine Qn.ret_then ?_
    refine Qn.ret_then ?_
    exact post_ret (v := .string r) (fun a ha => RunRes.run (vs := [.string r]) (.tmp (t := 4) (by kernel_rfl) .nil) ha (by kernel_rfl)) ⟨rfl, hI⟩
  · rw [if_neg hb2] at h0
    have hb3 : decide (a0 < 100) = false := by simpa using hb2
    obtain ⟨y2, hc2, h0⟩ := bindS h0
    obtain ⟨⟨hy0, hy1⟩, h0⟩ := guardS h0
    obtain ⟨y3, hc3, h0⟩ := bindS h0
    have e := someS h0
    subst e
    obtain ⟨m, rfl⟩ := Int.eq_ofNat_of_zero_le hy0
    rw [Int.toNat_natCast] at hc3
    have hm : m ≤ 23 := by omega
    refine CodT.no' (b := decide (a0 < 100)) (by kernel_rfl) hb3 ?_
    refine CodT.skip ?_
    refine Qn.then ?_
    refine CodT.seq ?_
    refine CodT.regionL [0] (by kernel_rfl) ?_
    refine OpsT.cons (Does.allocL (d := 5) (T := 96) (cA (Value.int .u8) (List.replicate 24 (0 : Int))) (by kernel_rfl) ty96 hI (by kernel_rfl) ?_)
    intro b w hI
    refine OpsT.done ?_
    refine Qn.then ?_
    refine CodT.seq ?_
    refine CodT.regionL [0, 1, 2] (by kernel_rfl) ?_
    refine OpsT.pures (r := []) [0, 1, 2] [0, 5, 6] (S' := [(0, .int .i64 a0), (5, .pointer (some ⟨b, 0, none⟩)), (6, .int .u64 (wu64 a0))]) (by kernel_rfl) ?_
    refine OpsT.done ?_
    refine Qn.then ?_
    refine CodT.seq ?_
    refine CodT.seq ?_
    refine CodT.regionL [0, 1] (by kernel_rfl) ?_
    refine OpsT.pures (r := []) [0, 1] [0, 5, 6, 23] (S' := [(0, .int .i64 a0), (5, .pointer (some ⟨b, 0, none⟩)), (6, .int .u64 (wu64 a0)), (23, .bool (decide (a0 < 0)))]) (by kernel_rfl) ?_
    refine OpsT.done ?_
    refine Qn.then ?_
    have hb4 : decide (a0 < 0) = false := by simp; omega
    refine CodT.no' (b := decide (a0 < 0)) (by kernel_rfl) hb4 ?_
    refine CodT.skip ?_
    refine Qn.then ?_
    refine CodT.seq ?_
    refine CodT.regionL [0, 1, 2] (by kernel_rfl) ?_
    refine OpsT.pures (r := [1, 2]) [0] [0, 5, 6, 26] (S' := [(0, .int .i64 a0), (5, .pointer (some ⟨b, 0, none⟩)), (6, .int .u64 (wu64 a0)), (26, .int .u64 (wu64 a0))]) (by kernel_rfl) ?_
    refine OpsT.cons (Does.call (d := some 27) (n := 50) (vs := [.int .u64 (wu64 a0)]) (by kernel_rfl) en50 (c50 w0 w _ _ hI hT (wu64 a0) _ hc2) ?_)
    rintro e w ⟨rfl, hI⟩
    refine ⟨_, rfl, ?_⟩
    refine OpsT.pures (r := []) [2] [0, 5, 6, 7] (S' := [(0, .int .i64 a0), (5, .pointer (some ⟨b, 0, none⟩)), (6, .int .u64 (wu64 a0)), (7, .int .i64 (m : Int))]) (by kernel_rfl) ?_
    refine OpsT.done ?_
    refine Qn.then ?_
    have hw1 : wi64 (1 + (m : Int)) = 1 + (m : Int) := win_w hm
    have hI := win_new hI hm
    refine CodT.seq ?_
    refine CodT.regionL [0, 1, 2, 3, 4] (by kernel_rfl) ?_
    refine OpsT.pures (r := [2, 3, 4]) [0, 1] [0, 5, 6, 7, 29] (S' := [(0, .int .i64 a0), (5, .pointer (some ⟨b, 0, none⟩)), (6, .int .u64 (wu64 a0)), (7, .int .i64 (m : Int)), (29, .int .i64 (wi64 (1 + (m : Int))))]) (by kernel_rfl) ?_
    refine OpsT.cons (Does.yi (Yl.sliceArr (d := 30) (T := 96) (E := 5) (b := b) (n := 24) (m := (List.replicate m (0 : Int)).length) (c := 23) (hi := wi64 (1 + (m : Int))) (by kernel_rfl) Go.Proofs.Try.underlying96 ty5 (by rw [List.length_replicate]; exact hw1) (by rw [List.length_replicate]; omega) (by decide) rfl) hI ?_)
    refine OpsT.pures (r := [4]) [3] [0, 5, 7, 30, 31] (S' := [(0, .int .i64 a0), (5, .pointer (some ⟨b, 0, none⟩)), (7, .int .i64 (m : Int)), (30, .slice (some ⟨b, 1, none⟩) (List.replicate m (0 : Int)).length 23), (31, .int .u64 (wu64 a0))]) (by kernel_rfl) ?_
    refine OpsT.cons (Does.call (d := some 32) (n := 51) (vs := [.slice (some ⟨b, 1, none⟩) (List.replicate m (0 : Int)).length 23, .int .u64 (wu64 a0)]) (by kernel_rfl) en51 (c51 w0 w _ _ hT _ 23 _ (wu64 a0) hI _ hc3) ?_)
    rintro e w ⟨rfl, hl, hI⟩
    refine ⟨_, rfl, ?_⟩
    rw [List.length_replicate] at hl
    obtain ⟨Z', hle, hR, hI⟩ := winS_freeze hI
    refine OpsT.keep [0, 5, 7] (S' := [(0, .int .i64 a0), (5, .pointer (some ⟨b, 0, none⟩)), (7, .int .i64 (m : Int))]) (by kernel_rfl) ?_
    refine OpsT.done ?_
    refine Qn.then ?_
    refine CodT.seq ?_
    refine CodT.seq ?_
    refine CodT.regionL [0, 1] (by kernel_rfl) ?_
    refine OpsT.pures (r := []) [0, 1] [0, 5, 7, 34] (S' := [(0, .int .i64 a0), (5, .pointer (some ⟨b, 0, none⟩)), (7, .int .i64 (m : Int)), (34, .bool (decide (a0 < 0)))]) (by kernel_rfl) ?_
    refine OpsT.done ?_
    refine Qn.then ?_
    refine CodT.no' (b := decide (a0 < 0)) (by kernel_rfl) hb4 ?_
    refine CodT.skip ?_
    refine Qn.then ?_
    refine CodT.seq ?_
    refine CodT.regionL [0, 1, 2, 3, 4] (by kernel_rfl) ?_
    refine OpsT.pures (r := [2, 3, 4]) [0, 1] [5, 41] (S' := [(5, .pointer (some ⟨b, 0, none⟩)), (41, .int .i64 (wi64 (1 + (m : Int))))]) (by kernel_rfl) ?_
    refine OpsT.cons (Does.yi (Yl.sliceArr (d := 42) (T := 96) (E := 5) (b := b) (n := 24) (m := y3.length) (c := 23) (hi := wi64 (1 + (m : Int))) (by kernel_rfl) Go.Proofs.Try.underlying96 ty5 (by rw [hl]; exact hw1) (by rw [hl]; omega) (by decide) rfl) hI ?_)
    refine OpsT.cons (Does.yi (Yl.b2sR (d := 43) (src := 37) (dst := 9) (c := 23) (xs := y3) (by kernel_rfl) Go.Proofs.Try.underlying37 Go.Proofs.Try.underlying5 Go.Proofs.Try.underlying9 hR) hI ?_)
    refine OpsT.pures (r := []) [4] [4] (S' := [(4, .string (strOfNums y3))]) (by kernel_rfl) ?_
    refine OpsT.done ?_
    refine Qn.then ?_
    refine CodT.ret ?_
    refine Qn.ret_then ?_
    exact post_ret (v := .string (strOfNums y3)) (fun a ha => RunRes.run (vs := [.string (strOfNums y3)]) (.tmp (t := 4) (by kernel_rfl) .nil) ha (by kernel_rfl)) ⟨rfl, hI.weaken hle⟩

set_option maxRecDepth 100000 in
set_option maxHeartbeats 4000000 in
/-- internal/strconv.Itoa -/
theorem c47 (w0 w : World) (Z : Hp) (A : HP) (hI : Inv w0 Z w A) (hT : Tabs Z) (a0 : Int) (r : ByteArray) (h0 : strconv_Itoa' a0 = some r) :
    Calls prog 47 #[.int .i64 a0] w (fun e w' => e = .returned (.string r) ∧ Inv w0 Z w' A) := by
  have e4 := calls_intro (R := (fun e w' => e = .returned (.string r) ∧ Inv w0 Z w' A)) (w := w) (args := [.int .i64 a0]) (fn := Go.Proofs.Try.f47) 5 Go.Proofs.Try.func47 (by rfl) Go.Proofs.Try.ntmps47 (by kernel_rfl)
  refine e4 ?_
  clear e4
  unfold strconv_Itoa' at h0
  refine CodT.seq ?_
  refine CodT.regionL [0] (by kernel_rfl) ?_
  refine OpsT.pures (r := []) [0] [0] (S' := [(0, .int .i64 a0)]) (by kernel_rfl) ?_
  refine OpsT.done ?_
  refine Qn.then ?_
  refine CodT.seq ?_
  refine CodT.regionL [0, 1, 2] (by kernel_rfl) ?_
  refine OpsT.pures (r := [1, 2]) [0] [3] (S' := [(3, .int .i64 a0)]) (by kernel_rfl) ?_
  obtain ⟨y2, hc1, h0⟩ := bindS h0
  try dsimp only at h0
  refine OpsT.cons (Does.call (d := some 4) (n := 48) (vs := [.int .i64 a0, .int .i64 10]) (by kernel_rfl) en48 (c48 w0 w _ _ hI hT a0 10 _ hc1) ?_)
  rintro e w ⟨rfl, hI⟩
  refine ⟨_, rfl, ?_⟩
  refine OpsT.pures (r := []) [2] [2] (S' := [(2, .string y2)]) (by kernel_rfl) ?_
  refine OpsT.done ?_
  refine Qn.then ?_
  refine CodT.ret ?_
  have e := someS h0
  subst e
  refine Qn.keep [2] (S' := [(2, .string y2)]) (by kernel_rfl) ?_
  exact post_ret (v := .string y2) (fun a ha => RunRes.run (vs := [.string y2]) (.tmp (t := 2) (by kernel_rfl) .nil) ha (by kernel_rfl)) ⟨rfl, hI⟩
set_option maxRecDepth 100000 in
set_option maxHeartbeats 4000000 in
/-- strconv.Itoa -/
theorem c46 (w0 w : World) (Z : Hp) (A : HP) (hI : Inv w0 Z w A) (hT : Tabs Z) (a0 : Int) (r : ByteArray) (h0 : strconv_Itoa a0 = some r) :
    Calls prog 46 #[.int .i64 a0] w (fun e w' => e = .returned (.string r) ∧ Inv w0 Z w' A) := by
  have e4 := calls_intro (R := (fun e w' => e = .returned (.string r) ∧ Inv w0 Z w' A)) (w := w) (args := [.int .i64 a0]) (fn := Go.Proofs.Try.f46) 5 Go.Proofs.Try.func46 (by rfl) Go.Proofs.Try.ntmps46 (by kernel_rfl)
  refine e4 ?_
  clear e4
  unfold strconv_Itoa at h0
  refine CodT.seq ?_
  refine CodT.regionL [0] (by kernel_rfl) ?_
  refine OpsT.pures (r := []) [0] [0] (S' := [(0, .int .i64 a0)]) (by kernel_rfl) ?_
  refine OpsT.done ?_
  refine Qn.then ?_
  refine CodT.seq ?_
  refine CodT.regionL [0, 1, 2] (by kernel_rfl) ?_
  refine OpsT.pures (r := [1, 2]) [0] [3] (S' := [(3, .int .i64 a0)]) (by kernel_rfl) ?_
  obtain ⟨y2, hc1, h0⟩ := bindS h0
  try dsimp only at h0
  refine OpsT.cons (Does.call (d := some 4) (n := 47) (vs := [.int .i64 a0]) (by kernel_rfl) en47 (c47 w0 w _ _ hI hT a0 _ hc1) ?_)
  rintro e w ⟨rfl, hI⟩
  refine ⟨_, rfl, ?_⟩
  refine OpsT.pures (r := []) [2] [2] (S' := [(2, .string y2)]) (by kernel_rfl) ?_
  refine OpsT.done ?_
  refine Qn.then ?_
  refine CodT.ret ?_
  have e := someS h0
  subst e
  refine Qn.keep [2] (S' := [(2, .string y2)]) (by kernel_rfl) ?_
  exact post_ret (v := .string y2) (fun a ha => RunRes.run (vs := [.string y2]) (.tmp (t := 2) (by kernel_rfl) .nil) ha (by kernel_rfl)) ⟨rfl, hI⟩
set_option maxRecDepth 100000 in
set_option maxHeartbeats 4000000 in
/-- (cenotaph/event.number).show -/
theorem c45 (w0 w : World) (Z : Hp) (A : HP) (hI : Inv w0 Z w A) (hT : Tabs Z) (a0 : Int) (r : ByteArray) (h0 : event_number_show a0 = some r) :
    Calls prog 45 #[.int .i64 a0] w (fun e w' => e = .returned (.string r) ∧ Inv w0 Z w' A) := by
  have e4 := calls_intro (R := (fun e w' => e = .returned (.string r) ∧ Inv w0 Z w' A)) (w := w) (args := [.int .i64 a0]) (fn := Go.Proofs.Try.f45) 5 Go.Proofs.Try.func45 (by rfl) Go.Proofs.Try.ntmps45 (by kernel_rfl)
  refine e4 ?_
  clear e4
  unfold event_number_show at h0
  refine CodT.seq ?_
  refine CodT.regionL [0] (by kernel_rfl) ?_
  refine OpsT.pures (r := []) [0] [0] (S' := [(0, .int .i64 a0)]) (by kernel_rfl) ?_
  refine OpsT.done ?_
  refine Qn.then ?_
  refine CodT.seq ?_
  refine CodT.regionL [0, 1, 2] (by kernel_rfl) ?_
  refine OpsT.pures (r := [1, 2]) [0] [3] (S' := [(3, .int .i64 a0)]) (by kernel_rfl) ?_
  obtain ⟨y2, hc1, h0⟩ := bindS h0
  try dsimp only at h0
  refine OpsT.cons (Does.call (d := some 4) (n := 46) (vs := [.int .i64 a0]) (by kernel_rfl) en46 (c46 w0 w _ _ hI hT a0 _ hc1) ?_)
  rintro e w ⟨rfl, hI⟩
  refine ⟨_, rfl, ?_⟩
  refine OpsT.pures (r := []) [2] [2] (S' := [(2, .string y2)]) (by kernel_rfl) ?_
  refine OpsT.done ?_
  refine Qn.then ?_
  refine CodT.ret ?_
  have e := someS h0
  subst e
  refine Qn.keep [2] (S' := [(2, .string y2)]) (by kernel_rfl) ?_
  exact post_ret (v := .string y2) (fun a ha => RunRes.run (vs := [.string y2]) (.tmp (t := 2) (by kernel_rfl) .nil) ha (by kernel_rfl)) ⟨rfl, hI⟩
set_option maxRecDepth 100000 in
set_option maxHeartbeats 4000000 in
/-- (*strings.Builder).copyCheck -/
theorem c69 (w0 w : World) (Z : Hp) (A : HP)  (hT : Tabs Z) (b_a0 : Nat) (a0_v_addr : Bool) (A_a0_v_buf : Option Addr) (c_a0_v_buf : Nat) (a0_v_buf : (List Int)) (hI : Inv w0 Z w (star (pt b_a0 (.cells ((([selfP b_a0 a0_v_addr, .slice A_a0_v_buf a0_v_buf.length c_a0_v_buf] : List Value))).toArray 113 (0, 0))) (star (ownS 5 (cI .u8) 1 A_a0_v_buf c_a0_v_buf a0_v_buf) A))) (r : (Bool × (List Int))) (h0 : strings_Builder_copyCheck a0_v_addr a0_v_buf = some r) :
    Calls prog 69 #[.pointer (some ⟨b_a0, 0, none⟩)] w (fun e w' => ∃ (A1 : Option Addr) (c1 : Nat), e = .returned (.tuple #[]) ∧ Inv w0 Z w' (star (pt b_a0 (.cells ((([selfP b_a0 r.1, .slice A1 r.2.length c1] : List Value))).toArray 113 (0, 0))) (star (ownS 5 (cI .u8) 1 A1 c1 r.2) A))) := by
  have e4 := calls_intro (R := (fun e w' => ∃ (A1 : Option Addr) (c1 : Nat), e = .returned (.tuple #[]) ∧ Inv w0 Z w' (star (pt b_a0 (.cells ((([selfP b_a0 r.1, .slice A1 r.2.length c1] : List Value))).toArray 113 (0, 0))) (star (ownS 5 (cI .u8) 1 A1 c1 r.2) A)))) (w := w) (args := [.pointer (some ⟨b_a0, 0, none⟩)]) (fn := Go.Proofs.Try.f69) 20 Go.Proofs.Try.func69 (by rfl) Go.Proofs.Try.ntmps69 (by kernel_rfl)
  refine e4 ?_
  clear e4
  unfold strings_Builder_copyCheck at h0
  refine CodT.seq ?_
  refine CodT.regionL [0, 1, 2, 3, 4] (by kernel_rfl) ?_
  refine OpsT.pures (r := [3, 4]) [0, 1, 2] [0, 4] (S' := [(0, .pointer (some ⟨b_a0, 0, none⟩)), (4, .pointer (some ⟨b_a0, 0, none⟩))]) (by kernel_rfl) ?_
  refine OpsT.cons (Does.yi (Yl.load (d := 5) (T := 111) (v := selfP b_a0 a0_v_addr) (by kernel_rfl) (ldB ty111 (l := (([selfP b_a0 a0_v_addr, .slice A_a0_v_buf a0_v_buf.length c_a0_v_buf] : List Value))) (o := 0) (v := selfP b_a0 a0_v_addr) (ent_refl _) (by kernel_rfl))) hI ?_)
  refine OpsT.cons (Does.yi (Yl.eqlSelf (d := 6) (T := 111) (b := b_a0) (t := a0_v_addr) (by kernel_rfl) Go.Proofs.Try.underlying111 (by kernel_rfl)) hI ?_)
  refine OpsT.done ?_
  refine Qn.then ?_
  by_cases hb1 : (!a0_v_addr) = true
  · rw [if_pos hb1] at h0
    refine CodT.yes' (b := !a0_v_addr) (by kernel_rfl) hb1 ?_
    refine CodT.regionL [0, 1, 2, 3, 4, 5, 6, 7] (by kernel_rfl) ?_
    refine OpsT.pures (r := [2, 3, 4, 5, 6, 7]) [0, 1] [7, 8] (S' := [(7, .pointer (some ⟨b_a0, 0, none⟩)), (8, .pointer (some ⟨b_a0, 0, none⟩))]) (by kernel_rfl) ?_
    refine OpsT.cons (Does.yi (Yl.toUns (d := 9) (src := 111) (dst := 124) (b := b_a0) (l := (([selfP b_a0 a0_v_addr, .slice A_a0_v_buf a0_v_buf.length c_a0_v_buf] : List Value))) (by kernel_rfl) Go.Proofs.Try.underlying111 Go.Proofs.Try.underlying124 ty113 (by kernel_rfl) (by kernel_rfl) (fun w hC => (hC.mono (ent_refl _)).block)) hI ?_)
    refine OpsT.cons (Does.ext (d := some 10) (n := 72) (vs := [.pointer (some ⟨b_a0, 0, none⟩)]) (by kernel_rfl) (ext72 _ _) ?_)
    refine OpsT.cons (Does.yi (Yl.fromUns (d := 11) (src := 124) (dst := 111) (b := b_a0) (l := (([selfP b_a0 a0_v_addr, .slice A_a0_v_buf a0_v_buf.length c_a0_v_buf] : List Value))) 2 (by kernel_rfl) Go.Proofs.Try.underlying124 Go.Proofs.Try.underlying111 ty113 (by kernel_rfl) (by kernel_rfl) (fun w hC => (hC.mono (ent_refl _)).block)) hI ?_)
    refine OpsT.pures (r := [7]) [5, 6] [11, 13] (S' := [(11, .pointer (some ⟨b_a0, 0, none⟩)), (13, .pointer (some ⟨b_a0, 0, none⟩))]) (by kernel_rfl) ?_
    refine OpsT.cons (Does.storeLit (T := 111) (b := b_a0) (o := 0) (v := .pointer (some ⟨b_a0, 0, none⟩)) (l := (([selfP b_a0 a0_v_addr, .slice A_a0_v_buf a0_v_buf.length c_a0_v_buf] : List Value))) (vs := ([.pointer (some ⟨b_a0, 0, none⟩)] : List Value)) (L' := (([selfP b_a0 true, .slice A_a0_v_buf a0_v_buf.length c_a0_v_buf] : List Value))) (by kernel_rfl) ty111 hI (by kernel_rfl) (by kernel_rfl) (by kernel_rfl) (by kernel_rfl) (by kernel_rfl) ?_)
    intro w hI
    refine OpsT.done ?_
    have e := someS h0
    subst e
    refine Qn.keep [] (S' := []) (by kernel_rfl) ?_
    exact post_normal (v := .tuple #[]) (fun a ha => RunRes.run (vs := []) .nil ha (by kernel_rfl)) ⟨A_a0_v_buf, c_a0_v_buf, rfl, hI⟩
  · rw [if_neg hb1] at h0
    refine CodT.no' (b := !a0_v_addr) (by kernel_rfl) (by simpa using hb1) ?_
    refine CodT.seq ?_
    refine CodT.regionL [0, 1, 2, 3, 4, 5] (by kernel_rfl) ?_
    refine OpsT.pures (r := [3, 4, 5]) [0, 1, 2] [0, 16] (S' := [(0, .pointer (some ⟨b_a0, 0, none⟩)), (16, .pointer (some ⟨b_a0, 0, none⟩))]) (by kernel_rfl) ?_
    refine OpsT.cons (Does.yi (Yl.load (d := 17) (T := 111) (v := selfP b_a0 a0_v_addr) (by kernel_rfl) (ldB ty111 (l := (([selfP b_a0 a0_v_addr, .slice A_a0_v_buf a0_v_buf.length c_a0_v_buf] : List Value))) (o := 0) (v := selfP b_a0 a0_v_addr) (ent_refl _) (by kernel_rfl))) hI ?_)
    refine OpsT.pures (r := [5]) [4] [17, 18] (S' := [(17, selfP b_a0 a0_v_addr), (18, .pointer (some ⟨b_a0, 0, none⟩))]) (by kernel_rfl) ?_
    refine OpsT.cons (Does.yi (Yl.neqSelf (d := 19) (T := 111) (b := b_a0) (t := a0_v_addr) (by kernel_rfl) Go.Proofs.Try.underlying111 ty113 (by kernel_rfl)) hI ?_)
    refine OpsT.done ?_
    refine Qn.then ?_
    refine CodT.no' (b := !a0_v_addr) (by kernel_rfl) (by simpa using hb1) ?_
    refine CodT.skip ?_
    have e := someS h0
    subst e
    refine Qn.keep [] (S' := []) (by kernel_rfl) ?_
    exact post_normal (v := .tuple #[]) (fun a ha => RunRes.run (vs := []) .nil ha (by kernel_rfl)) ⟨A_a0_v_buf, c_a0_v_buf, rfl, hI⟩
end Go.Cen
