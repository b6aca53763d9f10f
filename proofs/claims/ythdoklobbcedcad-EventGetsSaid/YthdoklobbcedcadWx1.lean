/- That the machine computes these: walks, printed by a program of ours. -/
import Derived.Test.YthdoklobbcedcadPx
import Derived.Test.YthdoklobbcedcadWx0
set_option linter.unusedVariables false
set_option linter.unusedSimpArgs false
namespace Go.Cen
set_option maxRecDepth 100000 in
set_option maxHeartbeats 4000000 in
/-- cenotaph/wire.GetSum -/
theorem c47 (w0 w : World) (Z : Hp) (A : HP) (hI : Inv w0 Z w A) (a0 : ByteArray) (r : ((List Int) × ByteArray × Bool)) (h0 : wire_GetSum a0 = some r) :
    Calls prog 47 #[.string a0] w (fun e w' => e = .returned (.tuple #[.agg (cA (Value.int .u8) r.1).toArray, .string r.2.1, .bool r.2.2]) ∧ r.1.length = 32 ∧ Inv w0 Z w' A) := by
  have e4 := calls_intro (R := (fun e w' => e = .returned (.tuple #[.agg (cA (Value.int .u8) r.1).toArray, .string r.2.1, .bool r.2.2]) ∧ r.1.length = 32 ∧ Inv w0 Z w' A)) (w := w) (args := [.string a0]) (fn := Go.Proofs.Try.f47) 25 Go.Proofs.Try.func47 (by rfl) Go.Proofs.Try.ntmps47 (by kernel_rfl)
  refine e4 ?_
  clear e4
  unfold wire_GetSum at h0
  refine CodT.seq ?_
  refine CodT.regionL [0, 1, 2] (by kernel_rfl) ?_
  refine OpsT.cons (Does.allocL (d := 2) (T := 24) (cA (Value.int .u8) (List.replicate 32 (0 : Int))) (by kernel_rfl) ty24 hI (by kernel_rfl) ?_)
  intro b1 w hI
  refine OpsT.pures (r := []) [1, 2] [0, 2] (S' := [(0, .string a0), (2, .pointer (some ⟨b1, 0, none⟩))]) (by kernel_rfl) ?_
  refine OpsT.done ?_
  refine Qn.then ?_
  refine CodT.seq ?_
  refine CodT.seq ?_
  refine CodT.regionL [0, 1, 2] (by kernel_rfl) ?_
  refine OpsT.pures (r := []) [0, 1, 2] [0, 2, 7] (S' := [(0, .string a0), (2, .pointer (some ⟨b1, 0, none⟩)), (7, .bool (decide ((a0.size : Int) < 32)))]) (by kernel_rfl) ?_
  refine OpsT.done ?_
  refine Qn.then ?_
  by_cases hb2 : (decide ((a0.size : Int) < 32)) = true
  · rw [if_pos hb2] at h0
    refine CodT.yes' (b := decide ((a0.size : Int) < 32)) (by kernel_rfl) hb2 ?_
    refine CodT.seq ?_
    refine CodT.regionL [0, 1, 2, 3, 4, 5, 6, 7] (by kernel_rfl) ?_
    refine OpsT.pures (r := [1, 2, 3, 4, 5, 6, 7]) [0] [2, 8] (S' := [(2, .pointer (some ⟨b1, 0, none⟩)), (8, .agg (c_WireGot_api_Digest (WireGot_api_Digest.mk (List.replicate 32 (0 : Int)) (⟨#[]⟩ : ByteArray) false)).toArray)]) (by kernel_rfl) ?_
    obtain ⟨⟨y4, y6, y7⟩, hc3, h0⟩ := bindS h0
    try dsimp only at h0
    refine OpsT.cons (Does.call (d := some 9) (n := 51) (vs := [.agg (c_WireGot_api_Digest (WireGot_api_Digest.mk (List.replicate 32 (0 : Int)) (⟨#[]⟩ : ByteArray) false)).toArray]) (by kernel_rfl) en51 (c51 w0 w _ _ hI (WireGot_api_Digest.mk (List.replicate 32 (0 : Int)) (⟨#[]⟩ : ByteArray) false) (by kernel_rfl) _ hc3) ?_)
    rintro e w ⟨rfl, hl5, hI⟩
    refine ⟨_, rfl, ?_⟩
    refine OpsT.pures (r := [5, 6, 7]) [2, 3, 4] [2, 10, 11, 12] (S' := [(2, .pointer (some ⟨b1, 0, none⟩)), (10, .agg (cA (Value.int .u8) y4).toArray), (11, .string y6), (12, .bool y7)]) (by kernel_rfl) ?_
    refine OpsT.cons (Does.storeAll (T := 24) (b := b1) (n := 32) (xs := (List.replicate 32 (0 : Int))) (ys := y4) (by kernel_rfl) ty24 hI (fun _ => rfl) (by kernel_rfl) hl5 ?_)
    intro w hI
    refine OpsT.pures (r := []) [6, 7] [2, 3, 4] (S' := [(2, .pointer (some ⟨b1, 0, none⟩)), (3, .string y6), (4, .bool y7)]) (by kernel_rfl) ?_
    refine OpsT.done ?_
    refine Qn.then ?_
    refine CodT.ret ?_
    refine Qn.ret_then ?_
    have hL8 := (ldBN ty24 (l := cA (Value.int .u8) y4) (o := 0) (cs := cA (Value.int .u8) y4) (ent_refl _) ((cA_length _ _).trans hl5) (whole _ _ ((cA_length _ _).trans hl5))) w hI
    have hI := hI.drop
    have e := someS h0
    subst e
    refine Qn.keep [2, 3, 4] (S' := [(2, .pointer (some ⟨b1, 0, none⟩)), (3, .string y6), (4, .bool y7)]) (by kernel_rfl) ?_
    exact post_ret (v := .tuple #[.agg (cA (Value.int .u8) y4).toArray, .string y6, .bool y7]) (fun a ha => RunRes.run (vs := [.agg (cA (Value.int .u8) y4).toArray, .string y6, .bool y7]) (.cell (t := 2) (T := 24) (ad := ⟨b1, 0, none⟩) (by kernel_rfl) hL8 (.tmp (t := 3) (by kernel_rfl) (.tmp (t := 4) (by kernel_rfl) .nil))) ha (by kernel_rfl)) ⟨rfl, hl5, hI⟩
  · rw [if_neg hb2] at h0
    refine CodT.no' (b := decide ((a0.size : Int) < 32)) (by kernel_rfl) (by simpa using hb2) ?_
    refine CodT.skip ?_
    refine Qn.then ?_
    refine CodT.seq ?_
    refine CodT.drawI (n := 15) [12] (by kernel_rfl) (by kernel_rfl) hI ?_
    intro w hI
    refine GmT.p' 0 13 (.string a0) (by kernel_rfl) (by kernel_rfl) ?_
    refine GmT.p' 5 18 (.string a0) (by kernel_rfl) (by kernel_rfl) ?_
    obtain ⟨hg9, h0⟩ := guardS h0
    refine GmT.r (i := 1) 2 (by kernel_rfl) (by kernel_rfl) (Yl.sliceStr01 (d := 14) (T := 9) (s := a0) (hi := 32) (by kernel_rfl) Go.Proofs.Try.underlying9 hg9) hI ?_
    obtain ⟨hg10, h0⟩ := guardS h0
    refine GmT.r (i := 6) 2 (by kernel_rfl) (by kernel_rfl) (Yl.sliceStr10 (d := 19) (T := 9) (s := a0) (lo := 32) (by kernel_rfl) Go.Proofs.Try.underlying9 hg10) hI ?_
    obtain ⟨hg11, h0⟩ := guardS h0
    refine GmT.o (i := 2) (by kernel_rfl) (Does.s2b (d := 15) (src := 9) (dst := 41) (s := sx a0 0 32) (by kernel_rfl) Go.Proofs.Try.underlying9 Go.Proofs.Try.underlying41 Go.Proofs.Try.underlying5 (Nat.le_trans hg11 (by decide)) hI ?_)
    intro A12 cp13 w hI
    have hC := hI
    have hC := hC.drop
    refine ⟨fun _ _ => hC, ?_⟩
    obtain ⟨hg14, h0⟩ := guardS h0
    obtain ⟨g15, hA16, hr17⟩ := ownS_all hI (by rw [hg14]; decide)
    refine GmT.o (i := 3) (by kernel_rfl) (Does.yi (Yl.arrPtr' (d := 16) (T := 24) (ad := ⟨g15, 0, none⟩) (c := cp13) (by kernel_rfl) Go.Proofs.Try.underlying24 hg14 hA16) hI ?_)
    refine ⟨fun _ h => h, ?_⟩
    refine GmT.o (i := 4) (by kernel_rfl) (Does.yi (Yl.load (d := 17) (T := 24) (v := .agg (cA (Value.int .u8) (byts (sx a0 0 32))).toArray) (by kernel_rfl) (ldRN ty24 (cs := cA (Value.int .u8) (byts (sx a0 0 32))) 0 (fun w hC => by rw [← flat_cI]; exact (fun w hC => hr17 w0 w _ hC) w hC) ((cA_length _ _).trans hg14) (whole _ _ ((cA_length _ _).trans hg14)))) hI ?_)
    refine ⟨fun _ h => h, ?_⟩
    refine GmT.o (i := 7) (by kernel_rfl) (Does.yi (Yl.buildB (d := 20) (T := 88) (ps := [(0, .agg (cA (Value.int .u8) (byts (sx a0 0 32))).toArray), (1, .string (sx a0 32 (a0.size : Int))), (2, .bool true)]) (cells := (c_WireGot_api_Digest (WireGot_api_Digest.mk (byts (sx a0 0 32)) (sx a0 32 (a0.size : Int)) true)).toArray) (by kernel_rfl) ((built_all (places := [(0, 32), (32, 1), (33, 1)]) (lens := [32, 1, 1]) (zs := [cA (Value.int .u8) (List.replicate 32 (0 : Int)), ([.string (⟨#[]⟩ : ByteArray)] : List Value), ([.bool false] : List Value)]) (fun _ => by kernel_rfl) (by kernel_rfl) [(0, .agg (cA (Value.int .u8) (byts (sx a0 0 32))).toArray, cA (Value.int .u8) (byts (sx a0 0 32))), (1, .string (sx a0 32 (a0.size : Int)), ([.string (sx a0 32 (a0.size : Int))] : List Value)), (2, .bool true, ([.bool true] : List Value))] (List.forall_mem_cons.2 ⟨⟨rfl, congrArg some ((cA_length _ _).trans hg14).symm, congrArg (fun n => some (0, n)) ((cA_length _ _).trans hg14).symm⟩, (List.forall_mem_cons.2 ⟨⟨rfl, rfl, rfl⟩, (List.forall_mem_cons.2 ⟨⟨rfl, rfl, rfl⟩, (fun _ h => by cases h)⟩)⟩)⟩)).trans (by first | rfl | simp [c_WireGot_api_Digest]))) hI ?_)
    refine ⟨fun _ h => h, ?_⟩
    obtain ⟨⟨y19, y21, y22⟩, hc18, h0⟩ := bindS h0
    try dsimp only at h0
    refine GmT.o (i := 8) (by kernel_rfl) (Does.call (d := some 21) (n := 51) (vs := [.agg (c_WireGot_api_Digest (WireGot_api_Digest.mk (byts (sx a0 0 32)) (sx a0 32 (a0.size : Int)) true)).toArray]) (by kernel_rfl) en51 (c51 w0 w _ _ hI (WireGot_api_Digest.mk (byts (sx a0 0 32)) (sx a0 32 (a0.size : Int)) true) hg14 _ hc18) ?_)
    rintro e w ⟨rfl, hl20, hI⟩
    refine ⟨_, rfl, ?_⟩
    have hC := hI
    have hC := hC.drop
    refine ⟨fun _ _ => hC, ?_⟩
    refine GmT.p' 9 22 (.agg (cA (Value.int .u8) y19).toArray) (by kernel_rfl) (by kernel_rfl) ?_
    refine GmT.p' 10 23 (.string y21) (by kernel_rfl) (by kernel_rfl) ?_
    refine GmT.p' 11 24 (.bool y22) (by kernel_rfl) (by kernel_rfl) ?_
    have hI := hI.mono (pick2 _ _ _)
    refine GmT.o (i := 12) (by kernel_rfl) (Does.storeAll (T := 24) (b := b1) (n := 32) (xs := (List.replicate 32 (0 : Int))) (ys := y19) (by kernel_rfl) ty24 hI (fun _ => rfl) (by kernel_rfl) hl20 ?_)
    intro w hI
    refine ⟨fun h => absurd h (by decide), ?_⟩
    refine GmT.p' 13 3 (.string y21) (by kernel_rfl) (by kernel_rfl) ?_
    refine GmT.p' 14 4 (.bool y22) (by kernel_rfl) (by kernel_rfl) ?_
    refine GmT.done (by kernel_rfl) ?_
    refine Qn.then ?_
    refine CodT.ret ?_
    have hL23 := (ldBN ty24 (l := cA (Value.int .u8) y19) (o := 0) (cs := cA (Value.int .u8) y19) (ent_refl _) ((cA_length _ _).trans hl20) (whole _ _ ((cA_length _ _).trans hl20))) w hI
    have hI := hI.drop
    have hI := hI.drop
    have e := someS h0
    subst e
    refine Qn.keep [2, 3, 4] (S' := [(2, .pointer (some ⟨b1, 0, none⟩)), (3, .string y21), (4, .bool y22)]) (by kernel_rfl) ?_
    exact post_ret (v := .tuple #[.agg (cA (Value.int .u8) y19).toArray, .string y21, .bool y22]) (fun a ha => RunRes.run (vs := [.agg (cA (Value.int .u8) y19).toArray, .string y21, .bool y22]) (.cell (t := 2) (T := 24) (ad := ⟨b1, 0, none⟩) (by kernel_rfl) hL23 (.tmp (t := 3) (by kernel_rfl) (.tmp (t := 4) (by kernel_rfl) .nil))) ha (by kernel_rfl)) ⟨rfl, hl20, hI⟩
set_option maxRecDepth 100000 in
set_option maxHeartbeats 4000000 in
/-- cenotaph/event.get -/
theorem c34 (w0 w : World) (Z : Hp) (A : HP) (hI : Inv w0 Z w A) (a0 : Dyn46) (a1 : ByteArray) (r : (Dyn46 × ByteArray × Bool)) (h0 : event_get a0 a1 = some r) :
    Calls prog 34 #[dynV46 a0, .string a1] w (fun e w' => e = .returned (.tuple #[dynV46 r.1, .string r.2.1, .bool r.2.2]) ∧ Inv w0 Z w' A) := by
  have e4 := calls_intro (R := (fun e w' => e = .returned (.tuple #[dynV46 r.1, .string r.2.1, .bool r.2.2]) ∧ Inv w0 Z w' A)) (w := w) (args := [dynV46 a0, .string a1]) (fn := Go.Proofs.Try.f34) 53 Go.Proofs.Try.func34 (by rfl) Go.Proofs.Try.ntmps34 (by kernel_rfl)
  refine e4 ?_
  clear e4
  unfold event_get at h0
  refine CodT.seq ?_
  refine CodT.regionL [0, 1, 2] (by kernel_rfl) ?_
  refine OpsT.pures (r := []) [0, 1, 2] [0, 1] (S' := [(0, dynV46 a0), (1, .string a1)]) (by kernel_rfl) ?_
  refine OpsT.done ?_
  refine Qn.then ?_
  obtain ⟨r1, h1, h0⟩ := bindS h0
  refine CodT.meet (fun a w => .inr () = r1 ∧ Fr 53 [(1, .string a1)] a ∧ Inv w0 Z w A) ?_ ?_
  ·
    refine CodT.seq ?_
    refine CodT.regionL [0] (by kernel_rfl) ?_
    refine OpsT.pures (r := []) [0] [1, 16] (S' := [(1, .string a1), (16, dynV46 a0)]) (by kernel_rfl) ?_
    refine OpsT.done ?_
    refine Qn.then ?_
    refine CodT.block ?_
    refine CodT.seq ?_
    refine CodT.regionL [0, 1, 2] (by kernel_rfl) ?_
    rcases hd1 : a0 with _ | z2 | z3 | z4
    ·
      simp only [hd1] at h1
      refine OpsT.keep [1, 16] (S' := [(1, .string a1), (16, .nilIface)]) (by (try simp only [hd1]); kernel_rfl) ?_
      refine OpsT.pures (r := []) [0, 1, 2] [1, 16, 18] (S' := [(1, .string a1), (16, .nilIface), (18, .bool false)]) (by kernel_rfl) ?_
      refine OpsT.done ?_
      refine Qn.then ?_
      refine CodT.no (by kernel_rfl) ?_
      refine CodT.seq ?_
      refine CodT.regionL [0, 1, 2] (by kernel_rfl) ?_
      refine OpsT.pures (r := []) [0, 1, 2] [1, 31] (S' := [(1, .string a1), (31, .bool false)]) (by kernel_rfl) ?_
      refine OpsT.done ?_
      refine Qn.then ?_
      refine CodT.no (by kernel_rfl) ?_
      refine CodT.skip ?_
      refine Qn.block_normal ?_
      have e := someS h1
      subst e
      exact Qn.thenJ fun a ha => ⟨rfl, ha.keep [1] (by kernel_rfl), hI⟩
    ·
      simp only [hd1] at h1
      refine OpsT.keep [1, 16] (S' := [(1, .string a1), (16, .iface 53 (.string z2))]) (by (try simp only [hd1]); kernel_rfl) ?_
      refine OpsT.pures (r := []) [0, 1, 2] [1, 16, 18] (S' := [(1, .string a1), (16, .iface 53 (.string z2)), (18, .bool true)]) (by kernel_rfl) ?_
      refine OpsT.done ?_
      refine Qn.then ?_
      refine CodT.yes (by kernel_rfl) ?_
      refine CodT.seq ?_
      refine CodT.regionL [0, 1, 2, 3, 4, 5, 6, 7, 8] (by kernel_rfl) ?_
      refine OpsT.pures (r := [1, 2, 3, 4, 5, 6, 7, 8]) [0] [21] (S' := [(21, .string a1)]) (by kernel_rfl) ?_
      obtain ⟨⟨y6, y7, y8⟩, hc5, h1⟩ := bindS h1
      try dsimp only at h1
      refine OpsT.cons (Does.call (d := some 22) (n := 46) (vs := [.string a1, .int .i64 100]) (by kernel_rfl) en46 (c46 w0 w _ _ hI a1 100 _ hc5) ?_)
      rintro e w ⟨rfl, hI⟩
      refine ⟨_, rfl, ?_⟩
      refine OpsT.pures (r := []) [2, 3, 4, 5, 6, 7, 8] [7, 8, 9] (S' := [(7, .string y6), (8, .string y7), (9, .bool y8)]) (by kernel_rfl) ?_
      refine OpsT.done ?_
      refine Qn.then ?_
      refine CodT.seq ?_
      refine CodT.regionL [0, 1, 2, 3, 4, 5, 6] (by kernel_rfl) ?_
      refine OpsT.pures (r := []) [0, 1, 2, 3, 4, 5, 6] [4, 5, 6] (S' := [(4, .iface 53 (.string y6)), (5, .string y7), (6, .bool y8)]) (by kernel_rfl) ?_
      refine OpsT.done ?_
      refine Qn.then ?_
      refine CodT.ret ?_
      refine Qn.block_ret ?_
      refine Qn.ret_then ?_
      have e := someS h1
      subst e
      try dsimp only at h0
      have e := someS h0
      subst e
      refine Qn.keep [4, 5, 6] (S' := [(4, .iface 53 (.string y6)), (5, .string y7), (6, .bool y8)]) (by kernel_rfl) ?_
      exact post_ret (v := .tuple #[.iface 53 (.string y6), .string y7, .bool y8]) (fun a ha => RunRes.run (vs := [.iface 53 (.string y6), .string y7, .bool y8]) (.tmp (t := 4) (by kernel_rfl) (.tmp (t := 5) (by kernel_rfl) (.tmp (t := 6) (by kernel_rfl) .nil))) ha (by kernel_rfl)) ⟨rfl, hI⟩
    ·
      simp only [hd1] at h1
      refine OpsT.keep [1, 16] (S' := [(1, .string a1), (16, .iface 68 (.int .i64 z3))]) (by (try simp only [hd1]); kernel_rfl) ?_
      refine OpsT.pures (r := []) [0, 1, 2] [1, 16, 18] (S' := [(1, .string a1), (16, .iface 68 (.int .i64 z3)), (18, .bool false)]) (by kernel_rfl) ?_
      refine OpsT.done ?_
      refine Qn.then ?_
      refine CodT.no (by kernel_rfl) ?_
      refine CodT.seq ?_
      refine CodT.regionL [0, 1, 2] (by kernel_rfl) ?_
      refine OpsT.pures (r := []) [0, 1, 2] [1, 31] (S' := [(1, .string a1), (31, .bool false)]) (by kernel_rfl) ?_
      refine OpsT.done ?_
      refine Qn.then ?_
      refine CodT.no (by kernel_rfl) ?_
      refine CodT.skip ?_
      refine Qn.block_normal ?_
      have e := someS h1
      subst e
      exact Qn.thenJ fun a ha => ⟨rfl, ha.keep [1] (by kernel_rfl), hI⟩
    ·
      simp only [hd1] at h1
      obtain ⟨hg9, h1⟩ := guardS h1
      refine OpsT.keep [1, 16] (S' := [(1, .string a1), (16, .iface 71 (.agg (cA (Value.int .u8) z4).toArray))]) (by (try simp only [hd1]); kernel_rfl) ?_
      refine OpsT.pures (r := []) [0, 1, 2] [1, 16, 18] (S' := [(1, .string a1), (16, .iface 71 (.agg (cA (Value.int .u8) z4).toArray)), (18, .bool false)]) (by kernel_rfl) ?_
      refine OpsT.done ?_
      refine Qn.then ?_
      refine CodT.no (by kernel_rfl) ?_
      refine CodT.seq ?_
      refine CodT.regionL [0, 1, 2] (by kernel_rfl) ?_
      refine OpsT.pures (r := []) [0, 1, 2] [1, 31] (S' := [(1, .string a1), (31, .bool true)]) (by kernel_rfl) ?_
      refine OpsT.done ?_
      refine Qn.then ?_
      refine CodT.yes (by kernel_rfl) ?_
      refine CodT.seq ?_
      refine CodT.regionL [0, 1, 2, 3, 4, 5, 6, 7, 8, 9] (by kernel_rfl) ?_
      refine OpsT.pures (r := [1, 2, 3, 4, 5, 6, 7, 8, 9]) [0] [34] (S' := [(34, .string a1)]) (by kernel_rfl) ?_
      obtain ⟨⟨y11, y13, y14⟩, hc10, h1⟩ := bindS h1
      try dsimp only at h1
      refine OpsT.cons (Does.call (d := some 35) (n := 47) (vs := [.string a1]) (by kernel_rfl) en47 (c47 w0 w _ _ hI a1 _ hc10) ?_)
      rintro e w ⟨rfl, hl12, hI⟩
      refine ⟨_, rfl, ?_⟩
      refine OpsT.pures (r := [6, 7, 8, 9]) [2, 3, 4, 5] [36, 37, 38] (S' := [(36, .agg (cA (Value.int .u8) y11).toArray), (37, .string y13), (38, .bool y14)]) (by kernel_rfl) ?_
      refine OpsT.cons (Does.allocL (d := 10) (T := 24) (cA (Value.int .u8) (List.replicate 32 (0 : Int))) (by kernel_rfl) ty24 hI (by kernel_rfl) ?_)
      intro b15 w hI
      refine OpsT.cons (Does.storeAll (T := 24) (b := b15) (n := 32) (xs := (List.replicate 32 (0 : Int))) (ys := y11) (by kernel_rfl) ty24 hI (fun _ => rfl) (by kernel_rfl) hl12 ?_)
      intro w hI
      refine OpsT.pures (r := []) [8, 9] [10, 11, 12] (S' := [(10, .pointer (some ⟨b15, 0, none⟩)), (11, .string y13), (12, .bool y14)]) (by kernel_rfl) ?_
      refine OpsT.done ?_
      refine Qn.then ?_
      refine CodT.seq ?_
      refine CodT.regionL [0, 1, 2, 3, 4, 5, 6] (by kernel_rfl) ?_
      refine OpsT.cons (Does.yi (Yl.load (d := 39) (T := 24) (v := .agg (cA (Value.int .u8) y11).toArray) (by kernel_rfl) (ldBN ty24 (l := cA (Value.int .u8) y11) (o := 0) (cs := cA (Value.int .u8) y11) (ent_refl _) ((cA_length _ _).trans hl12) (whole _ _ ((cA_length _ _).trans hl12)))) hI ?_)
      refine OpsT.pures (r := []) [1, 2, 3, 4, 5, 6] [4, 5, 6] (S' := [(4, .iface 71 (.agg (cA (Value.int .u8) y11).toArray)), (5, .string y13), (6, .bool y14)]) (by kernel_rfl) ?_
      refine OpsT.done ?_
      refine Qn.then ?_
      refine CodT.ret ?_
      refine Qn.block_ret ?_
      refine Qn.ret_then ?_
      have hI := hI.drop
      have e := someS h1
      subst e
      try dsimp only at h0
      have e := someS h0
      subst e
      refine Qn.keep [4, 5, 6] (S' := [(4, .iface 71 (.agg (cA (Value.int .u8) y11).toArray)), (5, .string y13), (6, .bool y14)]) (by kernel_rfl) ?_
      exact post_ret (v := .tuple #[.iface 71 (.agg (cA (Value.int .u8) y11).toArray), .string y13, .bool y14]) (fun a ha => RunRes.run (vs := [.iface 71 (.agg (cA (Value.int .u8) y11).toArray), .string y13, .bool y14]) (.tmp (t := 4) (by kernel_rfl) (.tmp (t := 5) (by kernel_rfl) (.tmp (t := 6) (by kernel_rfl) .nil))) ha (by kernel_rfl)) ⟨rfl, hI⟩
  ·
    rintro a w ⟨rfl, ha, hI⟩
    try dsimp only at h0
    refine CodT.of ?_ ha
    refine CodT.seq ?_
    refine CodT.regionL [0, 1, 2, 3, 4, 5, 6, 7, 8] (by kernel_rfl) ?_
    refine OpsT.pures (r := [1, 2, 3, 4, 5, 6, 7, 8]) [0] [44] (S' := [(44, .string a1)]) (by kernel_rfl) ?_
    obtain ⟨⟨y17, y18, y19⟩, hc16, h0⟩ := bindS h0
    try dsimp only at h0
    refine OpsT.cons (Does.call (d := some 45) (n := 33) (vs := [.string a1]) (by kernel_rfl) en33 (c33 w0 w _ _ hI a1 _ hc16) ?_)
    rintro e w ⟨rfl, hI⟩
    refine ⟨_, rfl, ?_⟩
    refine OpsT.pures (r := []) [2, 3, 4, 5, 6, 7, 8] [13, 14, 15] (S' := [(13, .int .i64 y17), (14, .string y18), (15, .bool y19)]) (by kernel_rfl) ?_
    refine OpsT.done ?_
    refine Qn.then ?_
    refine CodT.seq ?_
    refine CodT.regionL [0, 1, 2, 3, 4, 5, 6] (by kernel_rfl) ?_
    refine OpsT.pures (r := []) [0, 1, 2, 3, 4, 5, 6] [4, 5, 6] (S' := [(4, .iface 68 (.int .i64 y17)), (5, .string y18), (6, .bool y19)]) (by kernel_rfl) ?_
    refine OpsT.done ?_
    refine Qn.then ?_
    refine CodT.ret ?_
    have e := someS h0
    subst e
    refine Qn.keep [4, 5, 6] (S' := [(4, .iface 68 (.int .i64 y17)), (5, .string y18), (6, .bool y19)]) (by kernel_rfl) ?_
    exact post_ret (v := .tuple #[.iface 68 (.int .i64 y17), .string y18, .bool y19]) (fun a ha => RunRes.run (vs := [.iface 68 (.int .i64 y17), .string y18, .bool y19]) (.tmp (t := 4) (by kernel_rfl) (.tmp (t := 5) (by kernel_rfl) (.tmp (t := 6) (by kernel_rfl) .nil))) ha (by kernel_rfl)) ⟨rfl, hI⟩
set_option maxRecDepth 100000 in
set_option maxHeartbeats 4000000 in
/-- cenotaph/event.Get -/
theorem c16 (w0 w : World) (Z : Hp) (A : HP) (hI : Inv w0 Z w A) (a0 : ByteArray) (r : (ApiEvent × ByteArray × Bool)) (h0 : event_Get a0 = some r) :
    Calls prog 16 #[.string a0] w (fun e w' => e = .returned (.tuple #[.agg (c_ApiEvent r.1).toArray, .string r.2.1, .bool r.2.2]) ∧ r.1.Sum.length = 32 ∧ Inv w0 Z w' A) := by
  have e4 := calls_intro (R := (fun e w' => e = .returned (.tuple #[.agg (c_ApiEvent r.1).toArray, .string r.2.1, .bool r.2.2]) ∧ r.1.Sum.length = 32 ∧ Inv w0 Z w' A)) (w := w) (args := [.string a0]) (fn := Go.Proofs.Try.f16) 62 Go.Proofs.Try.func16 (by rfl) Go.Proofs.Try.ntmps16 (by kernel_rfl)
  refine e4 ?_
  clear e4
  unfold event_Get at h0
  refine CodT.seq ?_
  refine CodT.regionL [0, 1, 2] (by kernel_rfl) ?_
  refine OpsT.cons (Does.allocL (d := 2) (T := 26) (c_ApiEvent (ApiEvent.mk 0 0 (⟨#[]⟩ : ByteArray) 0 0 (List.replicate 32 (0 : Int)))) (by kernel_rfl) ty26 hI (by kernel_rfl) ?_)
  intro b1 w hI
  refine OpsT.pures (r := []) [1, 2] [0, 2] (S' := [(0, .string a0), (2, .pointer (some ⟨b1, 0, none⟩))]) (by kernel_rfl) ?_
  refine OpsT.done ?_
  refine Qn.then ?_
  refine CodT.seq ?_
  refine CodT.regionL [0, 1, 2, 3, 4, 5, 6, 7, 8] (by kernel_rfl) ?_
  refine OpsT.pures (r := [1, 2, 3, 4, 5, 6, 7, 8]) [0] [2, 13] (S' := [(2, .pointer (some ⟨b1, 0, none⟩)), (13, .string a0)]) (by kernel_rfl) ?_
  obtain ⟨⟨y3, y4, y5⟩, hc2, h0⟩ := bindS h0
  try dsimp only at h0
  refine OpsT.cons (Does.call (d := some 14) (n := 33) (vs := [.string a0]) (by kernel_rfl) en33 (c33 w0 w _ _ hI a0 _ hc2) ?_)
  rintro e w ⟨rfl, hI⟩
  refine ⟨_, rfl, ?_⟩
  refine OpsT.pures (r := []) [2, 3, 4, 5, 6, 7, 8] [2, 5, 6, 7] (S' := [(2, .pointer (some ⟨b1, 0, none⟩)), (5, .int .i64 y3), (6, .string y4), (7, .bool y5)]) (by kernel_rfl) ?_
  refine OpsT.done ?_
  refine Qn.then ?_
  refine CodT.seq ?_
  obtain ⟨r1, h1, h0⟩ := bindS h0
  refine CodT.meet (fun a w => ∃ (x6 : Bool), x6 = r1 ∧ Fr 62 [(2, .pointer (some ⟨b1, 0, none⟩)), (5, .int .i64 y3), (6, .string y4), (25, .bool x6)] a ∧ Inv w0 Z w (star (pt b1 (.cells (c_ApiEvent (ApiEvent.mk 0 0 (⟨#[]⟩ : ByteArray) 0 0 (List.replicate 32 (0 : Int)))).toArray 26 (0, 0))) A)) ?_ ?_
  ·
    refine CodT.regionL [0, 1, 2, 3, 4, 5, 6, 7] (by kernel_rfl) ?_
    refine OpsT.pures (r := [3, 4, 5, 6, 7]) [0, 1, 2] [2, 5, 6, 20] (S' := [(2, .pointer (some ⟨b1, 0, none⟩)), (5, .int .i64 y3), (6, .string y4), (20, .bool (!y5))]) (by kernel_rfl) ?_
    by_cases hb7 : (!y5) = true
    · rw [if_pos hb7] at h1
      refine OpsT.keep [2, 5, 6, 20] (S' := [(2, .pointer (some ⟨b1, 0, none⟩)), (5, .int .i64 y3), (6, .string y4), (20, .bool true)]) (by (try simp only [hb7]); kernel_rfl) ?_
      refine OpsT.pures (r := []) [3, 4, 5, 6, 7] [2, 5, 6, 25] (S' := [(2, .pointer (some ⟨b1, 0, none⟩)), (5, .int .i64 y3), (6, .string y4), (25, .bool true)]) (by kernel_rfl) ?_
      refine OpsT.done ?_
      have e := someS h1
      subst e
      exact Qn.thenJ fun a ha => ⟨true, rfl, ha.keep [2, 5, 6, 25] (by kernel_rfl), hI⟩
    · rw [if_neg hb7] at h1
      have hb7 : (!y5) = false := by simpa using hb7
      refine OpsT.keep [2, 5, 6, 20] (S' := [(2, .pointer (some ⟨b1, 0, none⟩)), (5, .int .i64 y3), (6, .string y4), (20, .bool false)]) (by (try simp only [hb7]); kernel_rfl) ?_
      refine OpsT.pures (r := [4, 5, 6, 7]) [3] [2, 5, 6, 20, 21] (S' := [(2, .pointer (some ⟨b1, 0, none⟩)), (5, .int .i64 y3), (6, .string y4), (20, .bool false), (21, .int .i64 y3)]) (by kernel_rfl) ?_
      obtain ⟨y9, hc8, h1⟩ := bindS h1
      try dsimp only at h1
      refine OpsT.cons (Does.call (d := some 22) (n := 29) (vs := []) (by kernel_rfl) en29 (c29 w0 w _ _ hI _ hc8) ?_)
      rintro e w ⟨rfl, hl10, hI⟩
      refine ⟨_, rfl, ?_⟩
      refine OpsT.pures (r := []) [5, 6, 7] [2, 5, 6, 25] (S' := [(2, .pointer (some ⟨b1, 0, none⟩)), (5, .int .i64 y3), (6, .string y4), (25, .bool (decide (y3 ≥ 8)))]) (by kernel_rfl) ?_
      refine OpsT.done ?_
      have e := someS h1
      subst e
      exact Qn.thenJ fun a ha => ⟨decide (y3 ≥ 8), rfl, ha.keep [2, 5, 6, 25] (by kernel_rfl), hI⟩
  ·
    rintro a w ⟨x6, rfl, ha, hI⟩
    try dsimp only at h0
    refine CodT.of ?_ ha
    by_cases hb11 : x6 = true
    · rw [if_pos hb11] at h0
      refine CodT.yes' (b := x6) (by kernel_rfl) hb11 ?_
      refine CodT.seq ?_
      refine CodT.regionL [0, 1, 2, 3] (by kernel_rfl) ?_
      refine OpsT.pures (r := [1, 2, 3]) [0] [2, 26] (S' := [(2, .pointer (some ⟨b1, 0, none⟩)), (26, .agg (c_ApiEvent (ApiEvent.mk 0 0 (⟨#[]⟩ : ByteArray) 0 0 (List.replicate 32 (0 : Int)))).toArray)]) (by kernel_rfl) ?_
      refine OpsT.cons (Does.storeLit (T := 26) (b := b1) (o := 0) (v := .agg (c_ApiEvent (ApiEvent.mk 0 0 (⟨#[]⟩ : ByteArray) 0 0 (List.replicate 32 (0 : Int)))).toArray) (l := c_ApiEvent (ApiEvent.mk 0 0 (⟨#[]⟩ : ByteArray) 0 0 (List.replicate 32 (0 : Int)))) (vs := c_ApiEvent (ApiEvent.mk 0 0 (⟨#[]⟩ : ByteArray) 0 0 (List.replicate 32 (0 : Int)))) (L' := c_ApiEvent (ApiEvent.mk 0 0 (⟨#[]⟩ : ByteArray) 0 0 (List.replicate 32 (0 : Int)))) (by kernel_rfl) ty26 hI (by kernel_rfl) (len_ApiEvent _ (by kernel_rfl)) (by rw [(len_ApiEvent _ (by kernel_rfl))]; kernel_rfl) (ones_app _ _ (by kernel_rfl) (ones_cA _)) (lset_all _ _ (Eq.trans (len_ApiEvent _ (by kernel_rfl)) (Eq.symm (len_ApiEvent _ (by kernel_rfl))))) ?_)
      intro w hI
      refine OpsT.pures (r := []) [2, 3] [2, 3, 4] (S' := [(2, .pointer (some ⟨b1, 0, none⟩)), (3, .string (⟨#[]⟩ : ByteArray)), (4, .bool false)]) (by kernel_rfl) ?_
      refine OpsT.done ?_
      refine Qn.then ?_
      refine CodT.ret ?_
      refine Qn.ret_then ?_
      have hL12 := (ldBN ty26 (l := c_ApiEvent (ApiEvent.mk 0 0 (⟨#[]⟩ : ByteArray) 0 0 (List.replicate 32 (0 : Int)))) (o := 0) (cs := c_ApiEvent (ApiEvent.mk 0 0 (⟨#[]⟩ : ByteArray) 0 0 (List.replicate 32 (0 : Int)))) (ent_refl _) (len_ApiEvent _ (by kernel_rfl)) (whole _ _ (len_ApiEvent _ (by kernel_rfl)))) w hI
      have hI := hI.drop
      have e := someS h0
      subst e
      refine Qn.keep [2, 3, 4] (S' := [(2, .pointer (some ⟨b1, 0, none⟩)), (3, .string (⟨#[]⟩ : ByteArray)), (4, .bool false)]) (by kernel_rfl) ?_
      exact post_ret (v := .tuple #[.agg (c_ApiEvent (ApiEvent.mk 0 0 (⟨#[]⟩ : ByteArray) 0 0 (List.replicate 32 (0 : Int)))).toArray, .string (⟨#[]⟩ : ByteArray), .bool false]) (fun a ha => RunRes.run (vs := [.agg (c_ApiEvent (ApiEvent.mk 0 0 (⟨#[]⟩ : ByteArray) 0 0 (List.replicate 32 (0 : Int)))).toArray, .string (⟨#[]⟩ : ByteArray), .bool false]) (.cell (t := 2) (T := 26) (ad := ⟨b1, 0, none⟩) (by kernel_rfl) hL12 (.tmp (t := 3) (by kernel_rfl) (.tmp (t := 4) (by kernel_rfl) .nil))) ha (by kernel_rfl)) ⟨rfl, (by kernel_rfl), hI⟩
    · rw [if_neg hb11] at h0
      refine CodT.no' (b := x6) (by kernel_rfl) (by simpa using hb11) ?_
      refine CodT.skip ?_
      refine Qn.then ?_
      refine CodT.seq ?_
      refine CodT.regionL [0, 1] (by kernel_rfl) ?_
      refine OpsT.pures (r := []) [0, 1] [2, 6, 8] (S' := [(2, .pointer (some ⟨b1, 0, none⟩)), (6, .string y4), (8, .int .i64 y3)]) (by kernel_rfl) ?_
      refine OpsT.done ?_
      refine Qn.then ?_
      refine CodT.seq ?_
      refine CodT.regionL [0, 1, 2, 3] (by kernel_rfl) ?_
      refine OpsT.pures (r := [2, 3]) [0, 1] [2, 6, 8, 29] (S' := [(2, .pointer (some ⟨b1, 0, none⟩)), (6, .string y4), (8, .int .i64 y3), (29, .agg (c_ApiEvent (ApiEvent.mk y3 0 (⟨#[]⟩ : ByteArray) 0 0 (List.replicate 32 (0 : Int)))).toArray)]) (by kernel_rfl) ?_
      obtain ⟨y14, hc13, h0⟩ := bindS h0
      try dsimp only at h0
      refine OpsT.cons (Does.call (d := some 30) (n := 20) (vs := [.agg (c_ApiEvent (ApiEvent.mk y3 0 (⟨#[]⟩ : ByteArray) 0 0 (List.replicate 32 (0 : Int)))).toArray]) (by kernel_rfl) en20 (c20 w0 w _ _ hI (ApiEvent.mk y3 0 (⟨#[]⟩ : ByteArray) 0 0 (List.replicate 32 (0 : Int))) (by kernel_rfl) _ hc13) ?_)
      rintro e w ⟨A15, cp16, rfl, hI⟩
      refine ⟨_, rfl, ?_⟩
      refine OpsT.pures (r := []) [3] [2, 6, 8, 9] (S' := [(2, .pointer (some ⟨b1, 0, none⟩)), (6, .string y4), (8, .int .i64 y3), (9, .slice A15 y14.length cp16)]) (by kernel_rfl) ?_
      refine OpsT.done ?_
      refine Qn.then ?_
      refine CodT.seq ?_
      refine CodT.seq ?_
      refine CodT.regionL [0, 1, 2] (by kernel_rfl) ?_
      refine OpsT.pures (r := []) [0, 1, 2] [2, 6, 8, 9, 32, 33] (S' := [(2, .pointer (some ⟨b1, 0, none⟩)), (6, .string y4), (8, .int .i64 y3), (9, .slice A15 y14.length cp16), (32, .int .i64 (y14.length : Int)), (33, .int .i64 0)]) (by kernel_rfl) ?_
      refine OpsT.done ?_
      refine Qn.then ?_
      obtain ⟨r1, h1, h0⟩ := bindS h0
      refine CodT.meet1 (fun a w => ∃ (x17 : ByteArray) (x18 : (List Dyn46)) (A19 : Option Addr) (cp20 : Nat), .inr (x17, x18) = r1 ∧ Fr 62 [(2, .pointer (some ⟨b1, 0, none⟩)), (6, .string x17), (8, .int .i64 y3), (9, .slice A19 x18.length cp20)] a ∧ Inv w0 Z w (star (ownS 46 cD46 1 A19 cp20 x18) (star (pt b1 (.cells (c_ApiEvent (ApiEvent.mk 0 0 (⟨#[]⟩ : ByteArray) 0 0 (List.replicate 32 (0 : Int)))).toArray 26 (0, 0))) A))) ?_ ?_
      ·
        refine CodT.block ?_
        refine (fun a ha => wp_loopN (fun k a w => ∃ (x21 : ByteArray) (x22 : (List Dyn46)) (x25 : Int) (A23 : Option Addr) (cp24 : Nat), event_Get.l0 y14 k x21 x22 x25 = some r1 ∧ Fr 62 [(2, .pointer (some ⟨b1, 0, none⟩)), (6, .string x21), (8, .int .i64 y3), (9, .slice A23 x22.length cp24), (32, .int .i64 (y14.length : Int)), (33, .int .i64 x25)] a ∧ Inv w0 Z w (star (ownS 46 cD46 1 A23 cp24 x22) (star (pt b1 (.cells (c_ApiEvent (ApiEvent.mk 0 0 (⟨#[]⟩ : ByteArray) 0 0 (List.replicate 32 (0 : Int)))).toArray 26 (0, 0))) A))) ?_ FU a w ⟨y4, y14, 0, A15, cp16, h1, ha.keep [2, 6, 8, 9, 32, 33] (by kernel_rfl), hI⟩)
        clear h1 hI
        rintro k a w ⟨x21, x22, x25, A23, cp24, h1, ha, hI⟩
        rcases k with _ | k
        · cases h1
        simp only [event_Get.l0] at h1
        refine CodT.of ?_ ha
        refine CodT.seq ?_
        refine CodT.regionL [0] (by kernel_rfl) ?_
        refine OpsT.pures (r := []) [0] [2, 6, 8, 9, 32, 33, 34] (S' := [(2, .pointer (some ⟨b1, 0, none⟩)), (6, .string x21), (8, .int .i64 y3), (9, .slice A23 x22.length cp24), (32, .int .i64 (y14.length : Int)), (33, .int .i64 x25), (34, .bool (decide (x25 < (y14.length : Int))))]) (by kernel_rfl) ?_
        refine OpsT.done ?_
        refine Qn.then ?_
        refine CodT.seq ?_
        by_cases hb26 : (decide (x25 < (y14.length : Int))) = true
        · rw [if_pos hb26] at h1
          refine CodT.yes' (b := decide (x25 < (y14.length : Int))) (by kernel_rfl) hb26 ?_
          refine CodT.skip ?_
          refine Qn.then ?_
          refine CodT.seq ?_
          refine CodT.block ?_
          refine CodT.seq ?_
          refine CodT.regionL [0, 1] (by kernel_rfl) ?_
          refine OpsT.pures (r := []) [0, 1] [2, 6, 8, 9, 10, 32, 33] (S' := [(2, .pointer (some ⟨b1, 0, none⟩)), (6, .string x21), (8, .int .i64 y3), (9, .slice A23 x22.length cp24), (10, .int .i64 x25), (32, .int .i64 (y14.length : Int)), (33, .int .i64 x25)]) (by kernel_rfl) ?_
          refine OpsT.done ?_
          refine Qn.then ?_
          refine CodT.seq ?_
          refine CodT.regionL [0, 1, 2, 3, 4, 5, 6, 7, 8, 9, 10, 11, 12, 13, 14, 15] (by kernel_rfl) ?_
          refine OpsT.pures (r := [4, 5, 6, 7, 8, 9, 10, 11, 12, 13, 14, 15]) [0, 1, 2, 3] [2, 6, 8, 9, 32, 33, 37, 38, 39, 40] (S' := [(2, .pointer (some ⟨b1, 0, none⟩)), (6, .string x21), (8, .int .i64 y3), (9, .slice A23 x22.length cp24), (32, .int .i64 (y14.length : Int)), (33, .int .i64 x25), (37, .slice A23 x22.length cp24), (38, .int .i64 x25), (39, .slice A23 x22.length cp24), (40, .int .i64 x25)]) (by kernel_rfl) ?_
          obtain ⟨hg27, h1⟩ := guardS h1
          obtain ⟨g28, hA29, hr30, hl31⟩ := ownS_get hI hg27.1 hg27.2
          refine OpsT.cons (Does.yi (Yl.indexSlice (d := 41) (T := 43) (cc := cp24) (k := .i64) (j := x25) (g := g28) (o := 0) (by kernel_rfl) Go.Proofs.Try.underlying43 ty46 hA29 hg27.1 hg27.2) hI ?_)
          refine OpsT.cons (Does.yi (Yl.load (d := 42) (T := 46) (v := dynV46 (gt x22 x25)) (by kernel_rfl) (ldR ty46 (v := dynV46 (gt x22 x25)) 0 (fun w hC => hr30 w0 w _ hC) (by kernel_rfl))) hI ?_)
          refine OpsT.pures (r := [7, 8, 9, 10, 11, 12, 13, 14, 15]) [6] [2, 8, 9, 32, 33, 37, 38, 42, 43] (S' := [(2, .pointer (some ⟨b1, 0, none⟩)), (8, .int .i64 y3), (9, .slice A23 x22.length cp24), (32, .int .i64 (y14.length : Int)), (33, .int .i64 x25), (37, .slice A23 x22.length cp24), (38, .int .i64 x25), (42, dynV46 (gt x22 x25)), (43, .string x21)]) (by kernel_rfl) ?_
          obtain ⟨⟨y33, y34, y35⟩, hc32, h1⟩ := bindS h1
          try dsimp only at h1
          refine OpsT.cons (Does.call (d := some 44) (n := 34) (vs := [dynV46 (gt x22 x25), .string x21]) (by kernel_rfl) en34 (c34 w0 w _ _ hI (gt x22 x25) x21 _ hc32) ?_)
          rintro e w ⟨rfl, hI⟩
          refine ⟨_, rfl, ?_⟩
          refine OpsT.pures (r := [12, 13, 14, 15]) [8, 9, 10, 11] [2, 8, 9, 32, 33, 37, 38, 45, 46, 47] (S' := [(2, .pointer (some ⟨b1, 0, none⟩)), (8, .int .i64 y3), (9, .slice A23 x22.length cp24), (32, .int .i64 (y14.length : Int)), (33, .int .i64 x25), (37, .slice A23 x22.length cp24), (38, .int .i64 x25), (45, dynV46 y33), (46, .string y34), (47, .bool y35)]) (by kernel_rfl) ?_
          obtain ⟨hg36, h1⟩ := guardS h1
          obtain ⟨g37, hA38, hr39, hl40⟩ := ownS_get hI hg36.1 hg36.2
          refine OpsT.cons (Does.yi (Yl.indexSlice (d := 48) (T := 43) (cc := cp24) (k := .i64) (j := x25) (g := g37) (o := 0) (by kernel_rfl) Go.Proofs.Try.underlying43 ty46 hA38 hg36.1 hg36.2) hI ?_)
          refine OpsT.cons (Does.storeElem (T := 46) (j := x25) (k := 0) (v := dynV46 y33) (vs := ([dynV46 y33] : List Value)) y33 (by kernel_rfl) ty46 hA38 hI hg36.1 hg36.2 (dynC46 _) (by kernel_rfl) (by kernel_rfl) (dynO46 _) (by kernel_rfl) ?_)
          intro w hI
          refine OpsT.keep [2, 8, 9, 32, 33, 37, 38, 45, 46, 47] (S' := [(2, .pointer (some ⟨b1, 0, none⟩)), (8, .int .i64 y3), (9, .slice A23 ((st x22 x25 y33).length) cp24), (32, .int .i64 (y14.length : Int)), (33, .int .i64 x25), (37, .slice A23 ((st x22 x25 y33).length) cp24), (38, .int .i64 x25), (45, dynV46 y33), (46, .string y34), (47, .bool y35)]) (by simp only [st_length]; kernel_rfl) ?_
          refine OpsT.pures (r := []) [14, 15] [2, 6, 7, 8, 9, 32, 33] (S' := [(2, .pointer (some ⟨b1, 0, none⟩)), (6, .string y34), (7, .bool y35), (8, .int .i64 y3), (9, .slice A23 ((st x22 x25 y33).length) cp24), (32, .int .i64 (y14.length : Int)), (33, .int .i64 x25)]) (by kernel_rfl) ?_
          refine OpsT.done ?_
          refine Qn.then ?_
          refine CodT.seq ?_
          refine CodT.regionL [0, 1] (by kernel_rfl) ?_
          refine OpsT.pures (r := []) [0, 1] [2, 6, 8, 9, 32, 33, 50] (S' := [(2, .pointer (some ⟨b1, 0, none⟩)), (6, .string y34), (8, .int .i64 y3), (9, .slice A23 ((st x22 x25 y33).length) cp24), (32, .int .i64 (y14.length : Int)), (33, .int .i64 x25), (50, .bool (!y35))]) (by kernel_rfl) ?_
          refine OpsT.done ?_
          refine Qn.then ?_
          by_cases hb41 : (!y35) = true
          · rw [if_pos hb41] at h1
            refine CodT.yes' (b := !y35) (by kernel_rfl) hb41 ?_
            refine CodT.seq ?_
            refine CodT.regionL [0, 1, 2, 3] (by kernel_rfl) ?_
            refine OpsT.pures (r := [1, 2, 3]) [0] [2, 51] (S' := [(2, .pointer (some ⟨b1, 0, none⟩)), (51, .agg (c_ApiEvent (ApiEvent.mk 0 0 (⟨#[]⟩ : ByteArray) 0 0 (List.replicate 32 (0 : Int)))).toArray)]) (by kernel_rfl) ?_
            have hI := hI.mono (pick2 _ _ _)
            refine OpsT.cons (Does.storeLit (T := 26) (b := b1) (o := 0) (v := .agg (c_ApiEvent (ApiEvent.mk 0 0 (⟨#[]⟩ : ByteArray) 0 0 (List.replicate 32 (0 : Int)))).toArray) (l := c_ApiEvent (ApiEvent.mk 0 0 (⟨#[]⟩ : ByteArray) 0 0 (List.replicate 32 (0 : Int)))) (vs := c_ApiEvent (ApiEvent.mk 0 0 (⟨#[]⟩ : ByteArray) 0 0 (List.replicate 32 (0 : Int)))) (L' := c_ApiEvent (ApiEvent.mk 0 0 (⟨#[]⟩ : ByteArray) 0 0 (List.replicate 32 (0 : Int)))) (by kernel_rfl) ty26 hI (by kernel_rfl) (len_ApiEvent _ (by kernel_rfl)) (by rw [(len_ApiEvent _ (by kernel_rfl))]; kernel_rfl) (ones_app _ _ (by kernel_rfl) (ones_cA _)) (lset_all _ _ (Eq.trans (len_ApiEvent _ (by kernel_rfl)) (Eq.symm (len_ApiEvent _ (by kernel_rfl))))) ?_)
            intro w hI
            refine OpsT.pures (r := []) [2, 3] [2, 3, 4] (S' := [(2, .pointer (some ⟨b1, 0, none⟩)), (3, .string (⟨#[]⟩ : ByteArray)), (4, .bool false)]) (by kernel_rfl) ?_
            refine OpsT.done ?_
            refine Qn.then ?_
            refine CodT.ret ?_
            refine Qn.block_ret ?_
            refine Qn.ret_then ?_
            refine Qn.ret_then ?_
            refine Qn.block_ret ?_
            refine Qn.ret_then ?_
            refine Qn.ret_then ?_
            have hL42 := (ldBN ty26 (l := c_ApiEvent (ApiEvent.mk 0 0 (⟨#[]⟩ : ByteArray) 0 0 (List.replicate 32 (0 : Int)))) (o := 0) (cs := c_ApiEvent (ApiEvent.mk 0 0 (⟨#[]⟩ : ByteArray) 0 0 (List.replicate 32 (0 : Int)))) (ent_refl _) (len_ApiEvent _ (by kernel_rfl)) (whole _ _ (len_ApiEvent _ (by kernel_rfl)))) w hI
            have hI := hI.drop
            have hI := hI.drop
            have e := someS h1
            subst e
            try dsimp only at h0
            have e := someS h0
            subst e
            refine Qn.keep [2, 3, 4] (S' := [(2, .pointer (some ⟨b1, 0, none⟩)), (3, .string (⟨#[]⟩ : ByteArray)), (4, .bool false)]) (by kernel_rfl) ?_
            exact post_ret (v := .tuple #[.agg (c_ApiEvent (ApiEvent.mk 0 0 (⟨#[]⟩ : ByteArray) 0 0 (List.replicate 32 (0 : Int)))).toArray, .string (⟨#[]⟩ : ByteArray), .bool false]) (fun a ha => RunRes.run (vs := [.agg (c_ApiEvent (ApiEvent.mk 0 0 (⟨#[]⟩ : ByteArray) 0 0 (List.replicate 32 (0 : Int)))).toArray, .string (⟨#[]⟩ : ByteArray), .bool false]) (.cell (t := 2) (T := 26) (ad := ⟨b1, 0, none⟩) (by kernel_rfl) hL42 (.tmp (t := 3) (by kernel_rfl) (.tmp (t := 4) (by kernel_rfl) .nil))) ha (by kernel_rfl)) ⟨rfl, (by kernel_rfl), hI⟩
          · rw [if_neg hb41] at h1
            refine CodT.no' (b := !y35) (by kernel_rfl) (by simpa using hb41) ?_
            refine CodT.skip ?_
            refine Qn.block_normal ?_
            refine Qn.then ?_
            refine CodT.regionL [0, 1] (by kernel_rfl) ?_
            refine OpsT.pures (r := []) [0, 1] [2, 6, 8, 9, 32, 33] (S' := [(2, .pointer (some ⟨b1, 0, none⟩)), (6, .string y34), (8, .int .i64 y3), (9, .slice A23 ((st x22 x25 y33).length) cp24), (32, .int .i64 (y14.length : Int)), (33, .int .i64 (wi64 (x25 + 1)))]) (by kernel_rfl) ?_
            refine OpsT.done ?_
            exact Qn.thenJ fun a ha => ⟨k, Nat.lt_succ_self k, y34, st x22 x25 y33, wi64 (x25 + 1), A23, cp24, h1, ha.keep [2, 6, 8, 9, 32, 33] (by kernel_rfl), hI⟩
        · rw [if_neg hb26] at h1
          refine CodT.no' (b := decide (x25 < (y14.length : Int))) (by kernel_rfl) (by simpa using hb26) ?_
          refine CodT.exit ?_
          refine Qn.exit_then ?_
          refine Qn.exit_then ?_
          refine Qn.block ?_
          have e := someS h1
          subst e
          exact Qn.thenJ fun a ha => ⟨x21, x22, A23, cp24, rfl, ha.keep [2, 6, 8, 9] (by kernel_rfl), hI⟩
      ·
        rintro a w ⟨x17, x18, A19, cp20, rfl, ha, hI⟩
        try dsimp only at h0
        refine Qn.of ?_ ha
        refine Qn.then ?_
        refine CodT.seq ?_
        refine CodT.regionL [0, 1, 2, 3, 4] (by kernel_rfl) ?_
        refine OpsT.pures (r := [2, 3, 4]) [0, 1] [2, 6, 53, 54] (S' := [(2, .pointer (some ⟨b1, 0, none⟩)), (6, .string x17), (53, .int .i64 y3), (54, .slice A19 x18.length cp20)]) (by kernel_rfl) ?_
        obtain ⟨Z43, hle44, hr45, hI⟩ := ownS_freeze hI
        obtain ⟨y47, hc46, h0⟩ := bindS h0
        try dsimp only at h0
        refine OpsT.cons (Does.call (d := some 55) (n := 26) (vs := [.int .i64 y3, .slice A19 x18.length cp20]) (by kernel_rfl) en26 (c26 w0 w _ _ hI y3 A19 cp20 x18 hr45 _ hc46) ?_)
        rintro e w ⟨rfl, hl48, hI⟩
        refine ⟨_, rfl, ?_⟩
        refine OpsT.cons (Does.allocL (d := 11) (T := 26) (c_ApiEvent (ApiEvent.mk 0 0 (⟨#[]⟩ : ByteArray) 0 0 (List.replicate 32 (0 : Int)))) (by kernel_rfl) ty26 hI (by kernel_rfl) ?_)
        intro b49 w hI
        refine OpsT.cons (Does.storeLit (T := 26) (b := b49) (o := 0) (v := .agg (c_ApiEvent y47).toArray) (l := c_ApiEvent (ApiEvent.mk 0 0 (⟨#[]⟩ : ByteArray) 0 0 (List.replicate 32 (0 : Int)))) (vs := c_ApiEvent y47) (L' := c_ApiEvent y47) (by kernel_rfl) ty26 hI (by kernel_rfl) (len_ApiEvent _ hl48) (by rw [(len_ApiEvent _ (by kernel_rfl))]; kernel_rfl) (ones_app _ _ (by kernel_rfl) (ones_cA _)) (lset_all _ _ (Eq.trans (len_ApiEvent _ hl48) (Eq.symm (len_ApiEvent _ (by kernel_rfl))))) ?_)
        intro w hI
        refine OpsT.done ?_
        refine Qn.then ?_
        refine CodT.seq ?_
        refine CodT.seq ?_
        refine CodT.regionL [0, 1, 2] (by kernel_rfl) ?_
        refine OpsT.cons (Does.yi (Yl.load (d := 56) (T := 26) (v := .agg (c_ApiEvent y47).toArray) (by kernel_rfl) (ldBN ty26 (l := c_ApiEvent y47) (o := 0) (cs := c_ApiEvent y47) (ent_refl _) (len_ApiEvent _ hl48) (whole _ _ (len_ApiEvent _ hl48)))) hI ?_)
        obtain ⟨y51, hc50, h0⟩ := bindS h0
        try dsimp only at h0
        refine OpsT.cons (Does.call (d := some 57) (n := 13) (vs := [.agg (c_ApiEvent y47).toArray]) (by kernel_rfl) en13 (c13 w0 w _ _ hI y47 hl48 _ hc50) ?_)
        rintro e w ⟨rfl, hI⟩
        refine ⟨_, rfl, ?_⟩
        refine OpsT.pures (r := []) [2] [2, 6, 11, 58] (S' := [(2, .pointer (some ⟨b1, 0, none⟩)), (6, .string x17), (11, .pointer (some ⟨b49, 0, none⟩)), (58, .bool (!y51))]) (by kernel_rfl) ?_
        refine OpsT.done ?_
        refine Qn.then ?_
        by_cases hb52 : (!y51) = true
        · rw [if_pos hb52] at h0
          refine CodT.yes' (b := !y51) (by kernel_rfl) hb52 ?_
          refine CodT.seq ?_
          refine CodT.regionL [0, 1, 2, 3] (by kernel_rfl) ?_
          refine OpsT.pures (r := [1, 2, 3]) [0] [2, 59] (S' := [(2, .pointer (some ⟨b1, 0, none⟩)), (59, .agg (c_ApiEvent (ApiEvent.mk 0 0 (⟨#[]⟩ : ByteArray) 0 0 (List.replicate 32 (0 : Int)))).toArray)]) (by kernel_rfl) ?_
          have hI := hI.mono (pick2 _ _ _)
          refine OpsT.cons (Does.storeLit (T := 26) (b := b1) (o := 0) (v := .agg (c_ApiEvent (ApiEvent.mk 0 0 (⟨#[]⟩ : ByteArray) 0 0 (List.replicate 32 (0 : Int)))).toArray) (l := c_ApiEvent (ApiEvent.mk 0 0 (⟨#[]⟩ : ByteArray) 0 0 (List.replicate 32 (0 : Int)))) (vs := c_ApiEvent (ApiEvent.mk 0 0 (⟨#[]⟩ : ByteArray) 0 0 (List.replicate 32 (0 : Int)))) (L' := c_ApiEvent (ApiEvent.mk 0 0 (⟨#[]⟩ : ByteArray) 0 0 (List.replicate 32 (0 : Int)))) (by kernel_rfl) ty26 hI (by kernel_rfl) (len_ApiEvent _ (by kernel_rfl)) (by rw [(len_ApiEvent _ (by kernel_rfl))]; kernel_rfl) (ones_app _ _ (by kernel_rfl) (ones_cA _)) (lset_all _ _ (Eq.trans (len_ApiEvent _ (by kernel_rfl)) (Eq.symm (len_ApiEvent _ (by kernel_rfl))))) ?_)
          intro w hI
          refine OpsT.pures (r := []) [2, 3] [2, 3, 4] (S' := [(2, .pointer (some ⟨b1, 0, none⟩)), (3, .string (⟨#[]⟩ : ByteArray)), (4, .bool false)]) (by kernel_rfl) ?_
          refine OpsT.done ?_
          refine Qn.then ?_
          refine CodT.ret ?_
          refine Qn.ret_then ?_
          have hL53 := (ldBN ty26 (l := c_ApiEvent (ApiEvent.mk 0 0 (⟨#[]⟩ : ByteArray) 0 0 (List.replicate 32 (0 : Int)))) (o := 0) (cs := c_ApiEvent (ApiEvent.mk 0 0 (⟨#[]⟩ : ByteArray) 0 0 (List.replicate 32 (0 : Int)))) (ent_refl _) (len_ApiEvent _ (by kernel_rfl)) (whole _ _ (len_ApiEvent _ (by kernel_rfl)))) w hI
          have hI := hI.drop
          have hI := hI.drop
          have e := someS h0
          subst e
          refine Qn.keep [2, 3, 4] (S' := [(2, .pointer (some ⟨b1, 0, none⟩)), (3, .string (⟨#[]⟩ : ByteArray)), (4, .bool false)]) (by kernel_rfl) ?_
          exact post_ret (v := .tuple #[.agg (c_ApiEvent (ApiEvent.mk 0 0 (⟨#[]⟩ : ByteArray) 0 0 (List.replicate 32 (0 : Int)))).toArray, .string (⟨#[]⟩ : ByteArray), .bool false]) (fun a ha => RunRes.run (vs := [.agg (c_ApiEvent (ApiEvent.mk 0 0 (⟨#[]⟩ : ByteArray) 0 0 (List.replicate 32 (0 : Int)))).toArray, .string (⟨#[]⟩ : ByteArray), .bool false]) (.cell (t := 2) (T := 26) (ad := ⟨b1, 0, none⟩) (by kernel_rfl) hL53 (.tmp (t := 3) (by kernel_rfl) (.tmp (t := 4) (by kernel_rfl) .nil))) ha (by kernel_rfl)) ⟨rfl, (by kernel_rfl), hI.weaken hle44⟩
        · rw [if_neg hb52] at h0
          refine CodT.no' (b := !y51) (by kernel_rfl) (by simpa using hb52) ?_
          refine CodT.skip ?_
          refine Qn.then ?_
          refine CodT.seq ?_
          refine CodT.regionL [0, 1, 2, 3, 4] (by kernel_rfl) ?_
          refine OpsT.cons (Does.yi (Yl.load (d := 60) (T := 26) (v := .agg (c_ApiEvent y47).toArray) (by kernel_rfl) (ldBN ty26 (l := c_ApiEvent y47) (o := 0) (cs := c_ApiEvent y47) (ent_refl _) (len_ApiEvent _ hl48) (whole _ _ (len_ApiEvent _ hl48)))) hI ?_)
          refine OpsT.pures (r := [2, 3, 4]) [1] [2, 60, 61] (S' := [(2, .pointer (some ⟨b1, 0, none⟩)), (60, .agg (c_ApiEvent y47).toArray), (61, .string x17)]) (by kernel_rfl) ?_
          have hI := hI.mono (pick2 _ _ _)
          refine OpsT.cons (Does.storeLit (T := 26) (b := b1) (o := 0) (v := .agg (c_ApiEvent y47).toArray) (l := c_ApiEvent (ApiEvent.mk 0 0 (⟨#[]⟩ : ByteArray) 0 0 (List.replicate 32 (0 : Int)))) (vs := c_ApiEvent y47) (L' := c_ApiEvent y47) (by kernel_rfl) ty26 hI (by kernel_rfl) (len_ApiEvent _ hl48) (by rw [(len_ApiEvent _ (by kernel_rfl))]; kernel_rfl) (ones_app _ _ (by kernel_rfl) (ones_cA _)) (lset_all _ _ (Eq.trans (len_ApiEvent _ hl48) (Eq.symm (len_ApiEvent _ (by kernel_rfl))))) ?_)
          intro w hI
          refine OpsT.pures (r := []) [3, 4] [2, 3, 4] (S' := [(2, .pointer (some ⟨b1, 0, none⟩)), (3, .string x17), (4, .bool true)]) (by kernel_rfl) ?_
          refine OpsT.done ?_
          refine Qn.then ?_
          refine CodT.ret ?_
          have hL54 := (ldBN ty26 (l := c_ApiEvent y47) (o := 0) (cs := c_ApiEvent y47) (ent_refl _) (len_ApiEvent _ hl48) (whole _ _ (len_ApiEvent _ hl48))) w hI
          have hI := hI.drop
          have hI := hI.drop
          have e := someS h0
          subst e
          refine Qn.keep [2, 3, 4] (S' := [(2, .pointer (some ⟨b1, 0, none⟩)), (3, .string x17), (4, .bool true)]) (by kernel_rfl) ?_
          exact post_ret (v := .tuple #[.agg (c_ApiEvent y47).toArray, .string x17, .bool true]) (fun a ha => RunRes.run (vs := [.agg (c_ApiEvent y47).toArray, .string x17, .bool true]) (.cell (t := 2) (T := 26) (ad := ⟨b1, 0, none⟩) (by kernel_rfl) hL54 (.tmp (t := 3) (by kernel_rfl) (.tmp (t := 4) (by kernel_rfl) .nil))) ha (by kernel_rfl)) ⟨rfl, hl48, hI.weaken hle44⟩
set_option maxRecDepth 100000 in
set_option maxHeartbeats 4000000 in
/-- cenotaph/event.Ranks -/
theorem c18 (w0 w : World) (Z : Hp) (A : HP) (hI : Inv w0 Z w A) (A_a0 : Option Addr) (c_a0 : Nat) (a0 : (List ApiEvent)) (hr_a0 : RdS Z c_ApiEvent 37 A_a0 c_a0 a0) (r : (List Int)) (h0 : event_Ranks a0 = some r) :
    Calls prog 18 #[.slice A_a0 a0.length c_a0] w (fun e w' => ∃ (A1 : Option Addr) (c1 : Nat), e = .returned (.slice A1 r.length c1) ∧ Inv w0 Z w' (star (ownS 3 (cI .i64) 1 A1 c1 r) A)) := by
  have e4 := calls_intro (R := (fun e w' => ∃ (A1 : Option Addr) (c1 : Nat), e = .returned (.slice A1 r.length c1) ∧ Inv w0 Z w' (star (ownS 3 (cI .i64) 1 A1 c1 r) A))) (w := w) (args := [.slice A_a0 a0.length c_a0]) (fn := Go.Proofs.Try.f18) 54 Go.Proofs.Try.func18 (by rfl) Go.Proofs.Try.ntmps18 (by kernel_rfl)
  refine e4 ?_
  clear e4
  unfold event_Ranks at h0
  refine CodT.seq ?_
  refine CodT.regionL [0] (by kernel_rfl) ?_
  refine OpsT.pures (r := []) [0] [0] (S' := [(0, .slice A_a0 a0.length c_a0)]) (by kernel_rfl) ?_
  refine OpsT.done ?_
  refine Qn.then ?_
  refine CodT.seq ?_
  refine CodT.regionL [0, 1] (by kernel_rfl) ?_
  refine OpsT.cons (Does.makeMap (α := Dyn20) (β := Int) (d := 11) (T := 67) dynV20 (fun x : Int => Value.int .i64 x) (by kernel_rfl) hI ?_)
  intro b1 w hI
  refine OpsT.pures (r := []) [1] [0, 3] (S' := [(0, .slice A_a0 a0.length c_a0), (3, .map (some b1))]) (by kernel_rfl) ?_
  refine OpsT.done ?_
  refine Qn.then ?_
  refine CodT.seq ?_
  refine CodT.regionL [0] (by kernel_rfl) ?_
  refine OpsT.pures (r := []) [0] [0, 3, 4] (S' := [(0, .slice A_a0 a0.length c_a0), (3, .map (some b1)), (4, .slice none 0 0)]) (by kernel_rfl) ?_
  refine OpsT.done ?_
  refine Qn.then ?_
  refine CodT.seq ?_
  refine CodT.seq ?_
  refine CodT.regionL [0, 1, 2] (by kernel_rfl) ?_
  refine OpsT.pures (r := []) [0, 1, 2] [3, 4, 12, 13, 14] (S' := [(3, .map (some b1)), (4, .slice none 0 0), (12, .slice A_a0 a0.length c_a0), (13, .int .i64 (a0.length : Int)), (14, .int .i64 0)]) (by kernel_rfl) ?_
  refine OpsT.done ?_
  refine Qn.then ?_
  obtain ⟨r1, h1, h0⟩ := bindS h0
  refine CodT.meet1 (fun a w => ∃ (x2 : (List Int)) (A3 : Option Addr) (cp4 : Nat), x2 = r1 ∧ Fr 54 [(4, .slice A3 x2.length cp4)] a ∧ Inv w0 Z w (star (ownS 3 (cI .i64) 1 A3 cp4 x2) A)) ?_ ?_
  ·
    refine CodT.block ?_
    have hI := ownS_nil (α := Int) hI 3 (cI .i64) 1
    refine (fun a ha => wp_loopN (fun k a w => ∃ (x5 : (List Int)) (x8 : Int) (x9 : (List (Dyn20 × Int))) (A6 : Option Addr) (cp7 : Nat), event_Ranks.l0 a0 k x5 x8 x9 = some r1 ∧ Fr 54 [(3, .map (some b1)), (4, .slice A6 x5.length cp7), (12, .slice A_a0 a0.length c_a0), (13, .int .i64 (a0.length : Int)), (14, .int .i64 x8)] a ∧ Inv w0 Z w (star (ownS 3 (cI .i64) 1 A6 cp7 x5) (star (pt b1 (mObj dynV20 (fun x : Int => Value.int .i64 x) x9)) A))) ?_ FU a w ⟨([] : List Int), 0, ([] : List (Dyn20 × Int)), none, 0, h1, ha.keep [3, 4, 12, 13, 14] (by kernel_rfl), hI⟩)
    clear h1 hI
    rintro k a w ⟨x5, x8, x9, A6, cp7, h1, ha, hI⟩
    rcases k with _ | k
    · cases h1
    simp only [event_Ranks.l0] at h1
    refine CodT.of ?_ ha
    refine CodT.seq ?_
    refine CodT.regionL [0] (by kernel_rfl) ?_
    refine OpsT.pures (r := []) [0] [3, 4, 12, 13, 14, 15] (S' := [(3, .map (some b1)), (4, .slice A6 x5.length cp7), (12, .slice A_a0 a0.length c_a0), (13, .int .i64 (a0.length : Int)), (14, .int .i64 x8), (15, .bool (decide (x8 < (a0.length : Int))))]) (by kernel_rfl) ?_
    refine OpsT.done ?_
    refine Qn.then ?_
    refine CodT.seq ?_
    by_cases hb10 : (decide (x8 < (a0.length : Int))) = true
    · rw [if_pos hb10] at h1
      refine CodT.yes' (b := decide (x8 < (a0.length : Int))) (by kernel_rfl) hb10 ?_
      refine CodT.skip ?_
      refine Qn.then ?_
      obtain ⟨r2, h2, h1⟩ := bindS h1
      refine CodT.meet (fun a w => ∃ (x11 : (List Int)) (x14 : (List (Dyn20 × Int))) (A12 : Option Addr) (cp13 : Nat), (x11, x14) = r2 ∧ Fr 54 [(3, .map (some b1)), (4, .slice A12 x11.length cp13), (12, .slice A_a0 a0.length c_a0), (13, .int .i64 (a0.length : Int)), (14, .int .i64 x8)] a ∧ Inv w0 Z w (star (ownS 3 (cI .i64) 1 A12 cp13 x11) (star (pt b1 (mObj dynV20 (fun x : Int => Value.int .i64 x) x14)) A))) ?_ ?_
      ·
        refine CodT.block ?_
        refine CodT.seq ?_
        refine CodT.regionL [0, 1, 2, 3] (by kernel_rfl) ?_
        obtain ⟨hg15, h2⟩ := guardS h2
        obtain ⟨g16, o20, hA17, hr18, hl19⟩ := RdS.get hr_a0 hg15.1 hg15.2
        refine OpsT.cons (Does.yi (Yl.indexSlice (d := 16) (T := 40) (cc := c_a0) (k := .i64) (j := x8) (g := g16) (o := o20) (by kernel_rfl) Go.Proofs.Try.underlying40 ty26 hA17 hg15.1 hg15.2) hI ?_)
        refine OpsT.cons (Does.yi (Yl.load (d := 17) (T := 26) (v := .agg (c_ApiEvent (gt a0 x8)).toArray) (by kernel_rfl) (ldRN ty26 (cs := c_ApiEvent (gt a0 x8)) 0 (fun w hC => hr18 w0 w _ hC) hl19 (whole _ _ hl19))) hI ?_)
        refine OpsT.cons (Does.allocL (d := 6) (T := 26) (c_ApiEvent (ApiEvent.mk 0 0 (⟨#[]⟩ : ByteArray) 0 0 (List.replicate 32 (0 : Int)))) (by kernel_rfl) ty26 hI (by kernel_rfl) ?_)
        intro b21 w hI
        refine OpsT.cons (Does.storeLit (T := 26) (b := b21) (o := 0) (v := .agg (c_ApiEvent (gt a0 x8)).toArray) (l := c_ApiEvent (ApiEvent.mk 0 0 (⟨#[]⟩ : ByteArray) 0 0 (List.replicate 32 (0 : Int)))) (vs := c_ApiEvent (gt a0 x8)) (L' := c_ApiEvent (gt a0 x8)) (by kernel_rfl) ty26 hI (by kernel_rfl) (len_ApiEvent _ (inv_ApiEvent _ hl19)) (by rw [(len_ApiEvent _ (by kernel_rfl))]; kernel_rfl) (ones_app _ _ (by kernel_rfl) (ones_cA _)) (lset_all _ _ (Eq.trans (len_ApiEvent _ (inv_ApiEvent _ hl19)) (Eq.symm (len_ApiEvent _ (by kernel_rfl))))) ?_)
        intro w hI
        refine OpsT.done ?_
        refine Qn.then ?_
        refine CodT.seq ?_
        refine CodT.regionL [0, 1, 2, 3] (by kernel_rfl) ?_
        refine OpsT.pures (r := [1, 2, 3]) [0] [3, 4, 6, 12, 13, 14, 18] (S' := [(3, .map (some b1)), (4, .slice A6 x5.length cp7), (6, .pointer (some ⟨b21, 0, none⟩)), (12, .slice A_a0 a0.length c_a0), (13, .int .i64 (a0.length : Int)), (14, .int .i64 x8), (18, .pointer (some ⟨b21, 1, none⟩))]) (by kernel_rfl) ?_
        refine OpsT.cons (Does.yi (Yl.load (d := 19) (T := 3) (v := .int .i64 ((gt a0 x8).ID)) (by kernel_rfl) (ldB ty3 (l := c_ApiEvent (gt a0 x8)) (o := 1) (v := .int .i64 ((gt a0 x8).ID)) (ent_refl _) (by kernel_rfl))) hI ?_)
        refine OpsT.pures (r := []) [2, 3] [3, 4, 6, 7, 12, 13, 14] (S' := [(3, .map (some b1)), (4, .slice A6 x5.length cp7), (6, .pointer (some ⟨b21, 0, none⟩)), (7, .iface 68 (.int .i64 ((gt a0 x8).ID))), (12, .slice A_a0 a0.length c_a0), (13, .int .i64 (a0.length : Int)), (14, .int .i64 x8)]) (by kernel_rfl) ?_
        refine OpsT.done ?_
        refine Qn.then ?_
        obtain ⟨r3, h3, h2⟩ := bindS h2
        refine CodT.meet (fun a w => ∃ (x22 : Dyn20), x22 = r3 ∧ Fr 54 [(3, .map (some b1)), (4, .slice A6 x5.length cp7), (7, dynV20 x22), (12, .slice A_a0 a0.length c_a0), (13, .int .i64 (a0.length : Int)), (14, .int .i64 x8)] a ∧ Inv w0 Z w (star (pt b1 (mObj dynV20 (fun x : Int => Value.int .i64 x) x9)) (star (ownS 3 (cI .i64) 1 A6 cp7 x5) A))) ?_ ?_
        ·
          refine CodT.seq ?_
          refine CodT.regionL [0, 1, 2] (by kernel_rfl) ?_
          refine OpsT.pures (r := [1, 2]) [0] [3, 4, 7, 12, 13, 14, 21] (S' := [(3, .map (some b1)), (4, .slice A6 x5.length cp7), (7, .iface 68 (.int .i64 ((gt a0 x8).ID))), (12, .slice A_a0 a0.length c_a0), (13, .int .i64 (a0.length : Int)), (14, .int .i64 x8), (21, .pointer (some ⟨b21, 0, none⟩))]) (by kernel_rfl) ?_
          refine OpsT.cons (Does.yi (Yl.load (d := 22) (T := 22) (v := .int .i64 ((gt a0 x8).Kind)) (by kernel_rfl) (ldB ty22 (l := c_ApiEvent (gt a0 x8)) (o := 0) (v := .int .i64 ((gt a0 x8).Kind)) (ent_refl _) (by kernel_rfl))) hI ?_)
          refine OpsT.pures (r := []) [2] [3, 4, 7, 12, 13, 14, 23] (S' := [(3, .map (some b1)), (4, .slice A6 x5.length cp7), (7, .iface 68 (.int .i64 ((gt a0 x8).ID))), (12, .slice A_a0 a0.length c_a0), (13, .int .i64 (a0.length : Int)), (14, .int .i64 x8), (23, .bool (((gt a0 x8).Kind) == 7))]) (by kernel_rfl) ?_
          refine OpsT.done ?_
          refine Qn.then ?_
          by_cases hb23 : (((gt a0 x8).Kind) == 7) = true
          · rw [if_pos hb23] at h3
            refine CodT.yes' (b := ((gt a0 x8).Kind) == 7) (by kernel_rfl) hb23 ?_
            refine CodT.regionL [0, 1] (by kernel_rfl) ?_
            refine OpsT.pures (r := []) [0, 1] [3, 4, 7, 12, 13, 14] (S' := [(3, .map (some b1)), (4, .slice A6 x5.length cp7), (7, .iface 53 (.string (⟨#[]⟩ : ByteArray))), (12, .slice A_a0 a0.length c_a0), (13, .int .i64 (a0.length : Int)), (14, .int .i64 x8)]) (by kernel_rfl) ?_
            refine OpsT.done ?_
            have hI := hI.drop
            have hI := hI.mono (pick2 _ _ _)
            have e := someS h3
            subst e
            exact Qn.thenJ fun a ha => ⟨(Dyn20.i53 (⟨#[]⟩ : ByteArray)), rfl, ha.keep [3, 4, 7, 12, 13, 14] (by kernel_rfl), hI⟩
          · rw [if_neg hb23] at h3
            refine CodT.no' (b := ((gt a0 x8).Kind) == 7) (by kernel_rfl) (by simpa using hb23) ?_
            refine CodT.skip ?_
            have hI := hI.drop
            have hI := hI.mono (pick2 _ _ _)
            have e := someS h3
            subst e
            exact Qn.thenJ fun a ha => ⟨(Dyn20.i68 ((gt a0 x8).ID)), rfl, ha.keep [3, 4, 7, 12, 13, 14] (by kernel_rfl), hI⟩
        ·
          rintro a w ⟨x22, rfl, ha, hI⟩
          try dsimp only at h2
          refine CodT.of ?_ ha
          refine CodT.seq ?_
          refine CodT.regionL [0, 1, 2, 3] (by kernel_rfl) ?_
          refine OpsT.pures (r := [2, 3]) [0, 1] [3, 4, 7, 12, 13, 14, 25, 26] (S' := [(3, .map (some b1)), (4, .slice A6 x5.length cp7), (7, dynV20 x22), (12, .slice A_a0 a0.length c_a0), (13, .int .i64 (a0.length : Int)), (14, .int .i64 x8), (25, .map (some b1)), (26, dynV20 x22)]) (by kernel_rfl) ?_
          refine OpsT.cons (Does.yi (Yl.lookup (d := 27) (mt := 67) (b := b1) (kv := dynV20) (vv := (fun x : Int => Value.int .i64 x)) (m := x9) (k := x22) (ok := false) (r := .int .i64 (mVal (0 : Int) x22 x9)) (by kernel_rfl) kt20 Go.Proofs.Try.underlying67 (0 : Int) (fun w => by kernel_rfl) (fun w hC => hC.mono (ent_refl _)) rfl) hI ?_)
          refine OpsT.pures (r := []) [3] [3, 4, 7, 8, 12, 13, 14] (S' := [(3, .map (some b1)), (4, .slice A6 x5.length cp7), (7, dynV20 x22), (8, .int .i64 (mVal (0 : Int) x22 x9)), (12, .slice A_a0 a0.length c_a0), (13, .int .i64 (a0.length : Int)), (14, .int .i64 x8)]) (by kernel_rfl) ?_
          refine OpsT.done ?_
          refine Qn.then ?_
          refine CodT.seq ?_
          refine CodT.drawI (n := 7) [4, 6] (by kernel_rfl) (by kernel_rfl) hI ?_
          intro w hI
          refine GmT.p' 0 28 (.map (some b1)) (by kernel_rfl) (by kernel_rfl) ?_
          refine GmT.p' 1 29 (dynV20 x22) (by kernel_rfl) (by kernel_rfl) ?_
          refine GmT.several [2, 4] (by kernel_rfl) rfl ?_
          intro i hi; simp only [List.mem_cons, List.not_mem_nil, or_false] at hi; rcases hi with rfl | rfl
          ·
            rw [lst_set]
            refine (Does.yi (Yl.lookup (d := 30) (mt := 67) (b := b1) (kv := dynV20) (vv := (fun x : Int => Value.int .i64 x)) (m := x9) (k := x22) (ok := false) (r := .int .i64 (mVal (0 : Int) x22 x9)) (by kernel_rfl) kt20 Go.Proofs.Try.underlying67 (0 : Int) (fun w => by kernel_rfl) (fun w hC => hC.mono (ent_refl _)) rfl) hI ?_)
            refine ⟨fun _ h => h, ?_⟩
            refine GmT.p' 3 31 (.int .i64 (wi64 ((mVal (0 : Int) x22 x9) + 1))) (by kernel_rfl) (by kernel_rfl) ?_
            refine GmT.o (i := 4) (by kernel_rfl) (Does.mapEntry (d := 32) (mt := 67) (b := b1) (kv := dynV20) (vv := (fun x : Int => Value.int .i64 x)) (m := x9) (k := x22) (by kernel_rfl) kt20 Go.Proofs.Try.underlying67 (0 : Int) (fun w => by kernel_rfl) hI ?_)
            intro w hI
            refine ⟨fun h => absurd h (by decide), ?_⟩
            refine GmT.p' 5 33 (.int .i64 ((mIdx x22 x9 : Nat) : Int)) (by kernel_rfl) (by kernel_rfl) ?_
            obtain ⟨hg24, h2⟩ := guardS h2
            refine GmT.o (i := 6) (by kernel_rfl) (Does.entryStore (mt := 67) (b := b1) (j := mIdx x22 x9) (kv := dynV20) (vv := (fun x : Int => Value.int .i64 x)) (m := mEnt (0 : Int) x22 x9) (q := .i64) (x := wi64 ((mVal (0 : Int) x22 x9) + 1)) (by kernel_rfl) hI hg24 ?_)
            intro w hI
            refine ⟨fun h => absurd h (by decide), ?_⟩
            refine GmT.done (by kernel_rfl) ?_
            refine Qn.then ?_
            obtain ⟨r3, h3, h2⟩ := bindS h2
            refine CodT.meet (fun a w => ∃ (x25 : Int), x25 = r3 ∧ Fr 54 [(3, .map (some b1)), (4, .slice A6 x5.length cp7), (8, .int .i64 x25), (12, .slice A_a0 a0.length c_a0), (13, .int .i64 (a0.length : Int)), (14, .int .i64 x8)] a ∧ Inv w0 Z w (star (pt b1 (mObj dynV20 (fun x : Int => Value.int .i64 x) (mSet (mIdx x22 x9) (wi64 ((mVal (0 : Int) x22 x9) + 1)) (mEnt (0 : Int) x22 x9)))) (star (ownS 3 (cI .i64) 1 A6 cp7 x5) A))) ?_ ?_
            ·
              refine CodT.seq ?_
              refine CodT.regionL [0, 1, 2, 3, 4, 5, 6] (by kernel_rfl) ?_
              refine OpsT.pures (r := [1, 2, 3, 4, 5, 6]) [0] [3, 4, 7, 8, 12, 13, 14, 35] (S' := [(3, .map (some b1)), (4, .slice A6 x5.length cp7), (7, dynV20 x22), (8, .int .i64 (mVal (0 : Int) x22 x9)), (12, .slice A_a0 a0.length c_a0), (13, .int .i64 (a0.length : Int)), (14, .int .i64 x8), (35, dynV20 x22)]) (by kernel_rfl) ?_
              rcases (show x22 = .nil ∨ (∃ z, x22 = .i9 z) ∨ (∃ z, x22 = .i53 z) ∨ (∃ z, x22 = .i68 z) from by cases x22 <;> simp) with hd26 | ⟨z27, hd26⟩ | ⟨z28, hd26⟩ | ⟨z29, hd26⟩
              ·
                simp only [hd26] at h3
                refine OpsT.keep [3, 4, 7, 8, 12, 13, 14, 35] (S' := [(3, .map (some b1)), (4, .slice A6 x5.length cp7), (7, .nilIface), (8, .int .i64 (mVal (0 : Int) x22 x9)), (12, .slice A_a0 a0.length c_a0), (13, .int .i64 (a0.length : Int)), (14, .int .i64 x8), (35, .nilIface)]) (by (try simp only [hd26]); kernel_rfl) ?_
                refine OpsT.pures (r := []) [1, 2, 3, 4, 5, 6] [3, 4, 7, 8, 10, 12, 13, 14] (S' := [(3, .map (some b1)), (4, .slice A6 x5.length cp7), (7, .nilIface), (8, .int .i64 (mVal (0 : Int) x22 x9)), (10, .bool false), (12, .slice A_a0 a0.length c_a0), (13, .int .i64 (a0.length : Int)), (14, .int .i64 x8)]) (by kernel_rfl) ?_
                refine OpsT.done ?_
                refine Qn.then ?_
                refine CodT.seq ?_
                refine CodT.regionL [0, 1] (by kernel_rfl) ?_
                refine OpsT.pures (r := []) [0, 1] [3, 4, 7, 8, 12, 13, 14, 40] (S' := [(3, .map (some b1)), (4, .slice A6 x5.length cp7), (7, .nilIface), (8, .int .i64 (mVal (0 : Int) x22 x9)), (12, .slice A_a0 a0.length c_a0), (13, .int .i64 (a0.length : Int)), (14, .int .i64 x8), (40, .bool true)]) (by kernel_rfl) ?_
                refine OpsT.done ?_
                refine Qn.then ?_
                refine CodT.yes (by kernel_rfl) ?_
                refine CodT.regionL [0] (by kernel_rfl) ?_
                refine OpsT.pures (r := []) [0] [3, 4, 8, 12, 13, 14] (S' := [(3, .map (some b1)), (4, .slice A6 x5.length cp7), (8, .int .i64 0), (12, .slice A_a0 a0.length c_a0), (13, .int .i64 (a0.length : Int)), (14, .int .i64 x8)]) (by kernel_rfl) ?_
                refine OpsT.done ?_
                have e := someS h3
                subst e
                exact Qn.thenJ fun a ha => ⟨0, rfl, ha.keep [3, 4, 8, 12, 13, 14] (by kernel_rfl), hI⟩
              ·
                simp only [hd26] at h3
                refine OpsT.keep [3, 4, 7, 8, 12, 13, 14, 35] (S' := [(3, .map (some b1)), (4, .slice A6 x5.length cp7), (7, .iface 9 (.string z27)), (8, .int .i64 (mVal (0 : Int) x22 x9)), (12, .slice A_a0 a0.length c_a0), (13, .int .i64 (a0.length : Int)), (14, .int .i64 x8), (35, .iface 9 (.string z27))]) (by (try simp only [hd26]); kernel_rfl) ?_
                refine OpsT.pures (r := []) [1, 2, 3, 4, 5, 6] [3, 4, 7, 8, 10, 12, 13, 14] (S' := [(3, .map (some b1)), (4, .slice A6 x5.length cp7), (7, .iface 9 (.string z27)), (8, .int .i64 (mVal (0 : Int) x22 x9)), (10, .bool false), (12, .slice A_a0 a0.length c_a0), (13, .int .i64 (a0.length : Int)), (14, .int .i64 x8)]) (by kernel_rfl) ?_
                refine OpsT.done ?_
                refine Qn.then ?_
                refine CodT.seq ?_
                refine CodT.regionL [0, 1] (by kernel_rfl) ?_
                refine OpsT.pures (r := []) [0, 1] [3, 4, 7, 8, 12, 13, 14, 40] (S' := [(3, .map (some b1)), (4, .slice A6 x5.length cp7), (7, .iface 9 (.string z27)), (8, .int .i64 (mVal (0 : Int) x22 x9)), (12, .slice A_a0 a0.length c_a0), (13, .int .i64 (a0.length : Int)), (14, .int .i64 x8), (40, .bool true)]) (by kernel_rfl) ?_
                refine OpsT.done ?_
                refine Qn.then ?_
                refine CodT.yes (by kernel_rfl) ?_
                refine CodT.regionL [0] (by kernel_rfl) ?_
                refine OpsT.pures (r := []) [0] [3, 4, 8, 12, 13, 14] (S' := [(3, .map (some b1)), (4, .slice A6 x5.length cp7), (8, .int .i64 0), (12, .slice A_a0 a0.length c_a0), (13, .int .i64 (a0.length : Int)), (14, .int .i64 x8)]) (by kernel_rfl) ?_
                refine OpsT.done ?_
                have e := someS h3
                subst e
                exact Qn.thenJ fun a ha => ⟨0, rfl, ha.keep [3, 4, 8, 12, 13, 14] (by kernel_rfl), hI⟩
              ·
                simp only [hd26] at h3
                refine OpsT.keep [3, 4, 7, 8, 12, 13, 14, 35] (S' := [(3, .map (some b1)), (4, .slice A6 x5.length cp7), (7, .iface 53 (.string z28)), (8, .int .i64 (mVal (0 : Int) x22 x9)), (12, .slice A_a0 a0.length c_a0), (13, .int .i64 (a0.length : Int)), (14, .int .i64 x8), (35, .iface 53 (.string z28))]) (by (try simp only [hd26]); kernel_rfl) ?_
                refine OpsT.pures (r := []) [1, 2, 3, 4, 5, 6] [3, 4, 7, 8, 10, 12, 13, 14] (S' := [(3, .map (some b1)), (4, .slice A6 x5.length cp7), (7, .iface 53 (.string z28)), (8, .int .i64 (mVal (0 : Int) x22 x9)), (10, .bool false), (12, .slice A_a0 a0.length c_a0), (13, .int .i64 (a0.length : Int)), (14, .int .i64 x8)]) (by kernel_rfl) ?_
                refine OpsT.done ?_
                refine Qn.then ?_
                refine CodT.seq ?_
                refine CodT.regionL [0, 1] (by kernel_rfl) ?_
                refine OpsT.pures (r := []) [0, 1] [3, 4, 7, 8, 12, 13, 14, 40] (S' := [(3, .map (some b1)), (4, .slice A6 x5.length cp7), (7, .iface 53 (.string z28)), (8, .int .i64 (mVal (0 : Int) x22 x9)), (12, .slice A_a0 a0.length c_a0), (13, .int .i64 (a0.length : Int)), (14, .int .i64 x8), (40, .bool true)]) (by kernel_rfl) ?_
                refine OpsT.done ?_
                refine Qn.then ?_
                refine CodT.yes (by kernel_rfl) ?_
                refine CodT.regionL [0] (by kernel_rfl) ?_
                refine OpsT.pures (r := []) [0] [3, 4, 8, 12, 13, 14] (S' := [(3, .map (some b1)), (4, .slice A6 x5.length cp7), (8, .int .i64 0), (12, .slice A_a0 a0.length c_a0), (13, .int .i64 (a0.length : Int)), (14, .int .i64 x8)]) (by kernel_rfl) ?_
                refine OpsT.done ?_
                have e := someS h3
                subst e
                exact Qn.thenJ fun a ha => ⟨0, rfl, ha.keep [3, 4, 8, 12, 13, 14] (by kernel_rfl), hI⟩
              ·
                simp only [hd26] at h3
                refine OpsT.keep [3, 4, 7, 8, 12, 13, 14, 35] (S' := [(3, .map (some b1)), (4, .slice A6 x5.length cp7), (7, .iface 68 (.int .i64 z29)), (8, .int .i64 (mVal (0 : Int) x22 x9)), (12, .slice A_a0 a0.length c_a0), (13, .int .i64 (a0.length : Int)), (14, .int .i64 x8), (35, .iface 68 (.int .i64 z29))]) (by (try simp only [hd26]); kernel_rfl) ?_
                refine OpsT.pures (r := []) [1, 2, 3, 4, 5, 6] [3, 4, 7, 8, 10, 12, 13, 14] (S' := [(3, .map (some b1)), (4, .slice A6 x5.length cp7), (7, .iface 68 (.int .i64 z29)), (8, .int .i64 (mVal (0 : Int) x22 x9)), (10, .bool true), (12, .slice A_a0 a0.length c_a0), (13, .int .i64 (a0.length : Int)), (14, .int .i64 x8)]) (by kernel_rfl) ?_
                refine OpsT.done ?_
                refine Qn.then ?_
                refine CodT.seq ?_
                refine CodT.regionL [0, 1] (by kernel_rfl) ?_
                refine OpsT.pures (r := []) [0, 1] [3, 4, 7, 8, 12, 13, 14, 40] (S' := [(3, .map (some b1)), (4, .slice A6 x5.length cp7), (7, .iface 68 (.int .i64 z29)), (8, .int .i64 (mVal (0 : Int) x22 x9)), (12, .slice A_a0 a0.length c_a0), (13, .int .i64 (a0.length : Int)), (14, .int .i64 x8), (40, .bool false)]) (by kernel_rfl) ?_
                refine OpsT.done ?_
                refine Qn.then ?_
                refine CodT.no (by kernel_rfl) ?_
                refine CodT.regionL [0, 1, 2, 3, 4, 5, 6, 7] (by kernel_rfl) ?_
                refine OpsT.pures (r := [5, 6, 7]) [0, 1, 2, 3, 4] [3, 4, 12, 13, 14, 41, 42, 45] (S' := [(3, .map (some b1)), (4, .slice A6 x5.length cp7), (12, .slice A_a0 a0.length c_a0), (13, .int .i64 (a0.length : Int)), (14, .int .i64 x8), (41, .int .i64 (mVal (0 : Int) x22 x9)), (42, .map (some b1)), (45, .iface 68 (.int .i64 z29))]) (by kernel_rfl) ?_
                refine OpsT.cons (Does.yi (Yl.lookup (d := 46) (mt := 67) (b := b1) (kv := dynV20) (vv := (fun x : Int => Value.int .i64 x)) (m := mSet (mIdx x22 x9) (wi64 ((mVal (0 : Int) x22 x9) + 1)) (mEnt (0 : Int) x22 x9)) (k := (Dyn20.i68 z29)) (ok := false) (r := .int .i64 (mVal (0 : Int) (Dyn20.i68 z29) (mSet (mIdx x22 x9) (wi64 ((mVal (0 : Int) x22 x9) + 1)) (mEnt (0 : Int) x22 x9)))) (by kernel_rfl) kt20 Go.Proofs.Try.underlying67 (0 : Int) (fun w => by kernel_rfl) (fun w hC => hC.mono (ent_refl _)) rfl) hI ?_)
                refine OpsT.pures (r := []) [6, 7] [3, 4, 8, 12, 13, 14] (S' := [(3, .map (some b1)), (4, .slice A6 x5.length cp7), (8, .int .i64 (if (mVal (0 : Int) (Dyn20.i68 z29) (mSet (mIdx x22 x9) (wi64 ((mVal (0 : Int) x22 x9) + 1)) (mEnt (0 : Int) x22 x9))) < (mVal (0 : Int) x22 x9) then mVal (0 : Int) (Dyn20.i68 z29) (mSet (mIdx x22 x9) (wi64 ((mVal (0 : Int) x22 x9) + 1)) (mEnt (0 : Int) x22 x9)) else mVal (0 : Int) x22 x9)), (12, .slice A_a0 a0.length c_a0), (13, .int .i64 (a0.length : Int)), (14, .int .i64 x8)]) (by kernel_rfl) ?_
                refine OpsT.done ?_
                have e := someS h3
                subst e
                exact Qn.thenJ fun a ha => ⟨if (mVal (0 : Int) (Dyn20.i68 z29) (mSet (mIdx x22 x9) (wi64 ((mVal (0 : Int) x22 x9) + 1)) (mEnt (0 : Int) x22 x9))) < (mVal (0 : Int) x22 x9) then mVal (0 : Int) (Dyn20.i68 z29) (mSet (mIdx x22 x9) (wi64 ((mVal (0 : Int) x22 x9) + 1)) (mEnt (0 : Int) x22 x9)) else mVal (0 : Int) x22 x9, (by simp only [hd26]), ha.keep [3, 4, 8, 12, 13, 14] (by kernel_rfl), hI⟩
            ·
              rintro a w ⟨x25, rfl, ha, hI⟩
              try dsimp only at h2
              refine CodT.of ?_ ha
              refine CodT.regionL [0, 1, 2, 3, 4] (by kernel_rfl) ?_
              refine OpsT.pures (r := [2, 3, 4]) [0, 1] [3, 12, 13, 14, 48, 49] (S' := [(3, .map (some b1)), (12, .slice A_a0 a0.length c_a0), (13, .int .i64 (a0.length : Int)), (14, .int .i64 x8), (48, .slice A6 x5.length cp7), (49, .int .i64 x25)]) (by kernel_rfl) ?_
              refine OpsT.cons (Does.buildSlice (en := (cI .i64)) (d := 50) (n := 1) (T := 38) (ps := [(0, .int .i64 x25)]) ([x25] : List Int) (by kernel_rfl) Go.Proofs.Try.underlying38 ty3 (by kernel_rfl) (by kernel_rfl) (by kernel_rfl) (by kernel_rfl) (len_all (fun _ => rfl)) hI ?_)
              intro b30 w hI
              obtain ⟨hg31, h2⟩ := guardS h2
              have hI := hI.mono (pick3 _ _ _ _)
              refine OpsT.cons (Does.append (d := 51) (t := 38) (tx := 38) (ty := 38) (ys := x5) (zs := ([x25] : List Int)) (x := .slice (some ⟨b30, 0, none⟩) (([x25] : List Int).length) 1) (by kernel_rfl) Go.Proofs.Try.underlying38 ty3 (by kernel_rfl) hI (src_own Go.Proofs.Try.underlying38 (hI.mono (pick2 _ _ _)) (one_flat _ (fun _ => rfl))) (ownS_facts (hI.mono (pick2 _ _ _))).2.2 (by unfold LIM at hg31; omega) hg31 ?_)
              intro A32 cp33 w hI
              refine OpsT.pures (r := []) [4] [3, 4, 12, 13, 14] (S' := [(3, .map (some b1)), (4, .slice A32 ((x5 ++ ([x25] : List Int)).length) cp33), (12, .slice A_a0 a0.length c_a0), (13, .int .i64 (a0.length : Int)), (14, .int .i64 x8)]) (by kernel_rfl) ?_
              refine OpsT.done ?_
              refine Qn.block_normal ?_
              have hI := hI.mono (pick2 _ _ _)
              have hI := hI.drop
              have e := someS h2
              subst e
              exact Qn.thenJ fun a ha => ⟨x5 ++ ([x25] : List Int), mSet (mIdx x22 x9) (wi64 ((mVal (0 : Int) x22 x9) + 1)) (mEnt (0 : Int) x22 x9), A32, cp33, rfl, ha.keep [3, 4, 12, 13, 14] (by kernel_rfl), hI⟩
          ·
            rw [lst_set]
            refine (Does.mapEntry (d := 32) (mt := 67) (b := b1) (kv := dynV20) (vv := (fun x : Int => Value.int .i64 x)) (m := x9) (k := x22) (by kernel_rfl) kt20 Go.Proofs.Try.underlying67 (0 : Int) (fun w => by kernel_rfl) hI ?_)
            intro w hI
            refine ⟨fun h => absurd h (by decide), ?_⟩
            refine GmT.p' 5 33 (.int .i64 ((mIdx x22 x9 : Nat) : Int)) (by kernel_rfl) (by kernel_rfl) ?_
            refine GmT.o (i := 2) (by kernel_rfl) (Does.yi (Yl.lookup (d := 30) (mt := 67) (b := b1) (kv := dynV20) (vv := (fun x : Int => Value.int .i64 x)) (m := mEnt (0 : Int) x22 x9) (k := x22) (ok := false) (r := .int .i64 (mVal (0 : Int) x22 x9)) (by kernel_rfl) kt20 Go.Proofs.Try.underlying67 (0 : Int) (fun w => by kernel_rfl) (fun w hC => hC.mono (ent_refl _)) (by simp only [Bool.false_eq_true, if_false, mVal_ent])) hI ?_)
            refine ⟨fun _ h => h, ?_⟩
            refine GmT.p' 3 31 (.int .i64 (wi64 ((mVal (0 : Int) x22 x9) + 1))) (by kernel_rfl) (by kernel_rfl) ?_
            obtain ⟨hg34, h2⟩ := guardS h2
            refine GmT.o (i := 6) (by kernel_rfl) (Does.entryStore (mt := 67) (b := b1) (j := mIdx x22 x9) (kv := dynV20) (vv := (fun x : Int => Value.int .i64 x)) (m := mEnt (0 : Int) x22 x9) (q := .i64) (x := wi64 ((mVal (0 : Int) x22 x9) + 1)) (by kernel_rfl) hI hg34 ?_)
            intro w hI
            refine ⟨fun h => absurd h (by decide), ?_⟩
            refine GmT.done (by kernel_rfl) ?_
            refine Qn.then ?_
            obtain ⟨r3, h3, h2⟩ := bindS h2
            refine CodT.meet (fun a w => ∃ (x35 : Int), x35 = r3 ∧ Fr 54 [(3, .map (some b1)), (4, .slice A6 x5.length cp7), (8, .int .i64 x35), (12, .slice A_a0 a0.length c_a0), (13, .int .i64 (a0.length : Int)), (14, .int .i64 x8)] a ∧ Inv w0 Z w (star (pt b1 (mObj dynV20 (fun x : Int => Value.int .i64 x) (mSet (mIdx x22 x9) (wi64 ((mVal (0 : Int) x22 x9) + 1)) (mEnt (0 : Int) x22 x9)))) (star (ownS 3 (cI .i64) 1 A6 cp7 x5) A))) ?_ ?_
            ·
              refine CodT.seq ?_
              refine CodT.regionL [0, 1, 2, 3, 4, 5, 6] (by kernel_rfl) ?_
              refine OpsT.pures (r := [1, 2, 3, 4, 5, 6]) [0] [3, 4, 7, 8, 12, 13, 14, 35] (S' := [(3, .map (some b1)), (4, .slice A6 x5.length cp7), (7, dynV20 x22), (8, .int .i64 (mVal (0 : Int) x22 x9)), (12, .slice A_a0 a0.length c_a0), (13, .int .i64 (a0.length : Int)), (14, .int .i64 x8), (35, dynV20 x22)]) (by kernel_rfl) ?_
              rcases (show x22 = .nil ∨ (∃ z, x22 = .i9 z) ∨ (∃ z, x22 = .i53 z) ∨ (∃ z, x22 = .i68 z) from by cases x22 <;> simp) with hd36 | ⟨z37, hd36⟩ | ⟨z38, hd36⟩ | ⟨z39, hd36⟩
              ·
                simp only [hd36] at h3
                refine OpsT.keep [3, 4, 7, 8, 12, 13, 14, 35] (S' := [(3, .map (some b1)), (4, .slice A6 x5.length cp7), (7, .nilIface), (8, .int .i64 (mVal (0 : Int) x22 x9)), (12, .slice A_a0 a0.length c_a0), (13, .int .i64 (a0.length : Int)), (14, .int .i64 x8), (35, .nilIface)]) (by (try simp only [hd36]); kernel_rfl) ?_
                refine OpsT.pures (r := []) [1, 2, 3, 4, 5, 6] [3, 4, 7, 8, 10, 12, 13, 14] (S' := [(3, .map (some b1)), (4, .slice A6 x5.length cp7), (7, .nilIface), (8, .int .i64 (mVal (0 : Int) x22 x9)), (10, .bool false), (12, .slice A_a0 a0.length c_a0), (13, .int .i64 (a0.length : Int)), (14, .int .i64 x8)]) (by kernel_rfl) ?_
                refine OpsT.done ?_
                refine Qn.then ?_
                refine CodT.seq ?_
                refine CodT.regionL [0, 1] (by kernel_rfl) ?_
                refine OpsT.pures (r := []) [0, 1] [3, 4, 7, 8, 12, 13, 14, 40] (S' := [(3, .map (some b1)), (4, .slice A6 x5.length cp7), (7, .nilIface), (8, .int .i64 (mVal (0 : Int) x22 x9)), (12, .slice A_a0 a0.length c_a0), (13, .int .i64 (a0.length : Int)), (14, .int .i64 x8), (40, .bool true)]) (by kernel_rfl) ?_
                refine OpsT.done ?_
                refine Qn.then ?_
                refine CodT.yes (by kernel_rfl) ?_
                refine CodT.regionL [0] (by kernel_rfl) ?_
                refine OpsT.pures (r := []) [0] [3, 4, 8, 12, 13, 14] (S' := [(3, .map (some b1)), (4, .slice A6 x5.length cp7), (8, .int .i64 0), (12, .slice A_a0 a0.length c_a0), (13, .int .i64 (a0.length : Int)), (14, .int .i64 x8)]) (by kernel_rfl) ?_
                refine OpsT.done ?_
                have e := someS h3
                subst e
                exact Qn.thenJ fun a ha => ⟨0, rfl, ha.keep [3, 4, 8, 12, 13, 14] (by kernel_rfl), hI⟩
              ·
                simp only [hd36] at h3
                refine OpsT.keep [3, 4, 7, 8, 12, 13, 14, 35] (S' := [(3, .map (some b1)), (4, .slice A6 x5.length cp7), (7, .iface 9 (.string z37)), (8, .int .i64 (mVal (0 : Int) x22 x9)), (12, .slice A_a0 a0.length c_a0), (13, .int .i64 (a0.length : Int)), (14, .int .i64 x8), (35, .iface 9 (.string z37))]) (by (try simp only [hd36]); kernel_rfl) ?_
                refine OpsT.pures (r := []) [1, 2, 3, 4, 5, 6] [3, 4, 7, 8, 10, 12, 13, 14] (S' := [(3, .map (some b1)), (4, .slice A6 x5.length cp7), (7, .iface 9 (.string z37)), (8, .int .i64 (mVal (0 : Int) x22 x9)), (10, .bool false), (12, .slice A_a0 a0.length c_a0), (13, .int .i64 (a0.length : Int)), (14, .int .i64 x8)]) (by kernel_rfl) ?_
                refine OpsT.done ?_
                refine Qn.then ?_
                refine CodT.seq ?_
                refine CodT.regionL [0, 1] (by kernel_rfl) ?_
                refine OpsT.pures (r := []) [0, 1] [3, 4, 7, 8, 12, 13, 14, 40] (S' := [(3, .map (some b1)), (4, .slice A6 x5.length cp7), (7, .iface 9 (.string z37)), (8, .int .i64 (mVal (0 : Int) x22 x9)), (12, .slice A_a0 a0.length c_a0), (13, .int .i64 (a0.length : Int)), (14, .int .i64 x8), (40, .bool true)]) (by kernel_rfl) ?_
                refine OpsT.done ?_
                refine Qn.then ?_
                refine CodT.yes (by kernel_rfl) ?_
                refine CodT.regionL [0] (by kernel_rfl) ?_
                refine OpsT.pures (r := []) [0] [3, 4, 8, 12, 13, 14] (S' := [(3, .map (some b1)), (4, .slice A6 x5.length cp7), (8, .int .i64 0), (12, .slice A_a0 a0.length c_a0), (13, .int .i64 (a0.length : Int)), (14, .int .i64 x8)]) (by kernel_rfl) ?_
                refine OpsT.done ?_
                have e := someS h3
                subst e
                exact Qn.thenJ fun a ha => ⟨0, rfl, ha.keep [3, 4, 8, 12, 13, 14] (by kernel_rfl), hI⟩
              ·
                simp only [hd36] at h3
                refine OpsT.keep [3, 4, 7, 8, 12, 13, 14, 35] (S' := [(3, .map (some b1)), (4, .slice A6 x5.length cp7), (7, .iface 53 (.string z38)), (8, .int .i64 (mVal (0 : Int) x22 x9)), (12, .slice A_a0 a0.length c_a0), (13, .int .i64 (a0.length : Int)), (14, .int .i64 x8), (35, .iface 53 (.string z38))]) (by (try simp only [hd36]); kernel_rfl) ?_
                refine OpsT.pures (r := []) [1, 2, 3, 4, 5, 6] [3, 4, 7, 8, 10, 12, 13, 14] (S' := [(3, .map (some b1)), (4, .slice A6 x5.length cp7), (7, .iface 53 (.string z38)), (8, .int .i64 (mVal (0 : Int) x22 x9)), (10, .bool false), (12, .slice A_a0 a0.length c_a0), (13, .int .i64 (a0.length : Int)), (14, .int .i64 x8)]) (by kernel_rfl) ?_
                refine OpsT.done ?_
                refine Qn.then ?_
                refine CodT.seq ?_
                refine CodT.regionL [0, 1] (by kernel_rfl) ?_
                refine OpsT.pures (r := []) [0, 1] [3, 4, 7, 8, 12, 13, 14, 40] (S' := [(3, .map (some b1)), (4, .slice A6 x5.length cp7), (7, .iface 53 (.string z38)), (8, .int .i64 (mVal (0 : Int) x22 x9)), (12, .slice A_a0 a0.length c_a0), (13, .int .i64 (a0.length : Int)), (14, .int .i64 x8), (40, .bool true)]) (by kernel_rfl) ?_
                refine OpsT.done ?_
                refine Qn.then ?_
                refine CodT.yes (by kernel_rfl) ?_
                refine CodT.regionL [0] (by kernel_rfl) ?_
                refine OpsT.pures (r := []) [0] [3, 4, 8, 12, 13, 14] (S' := [(3, .map (some b1)), (4, .slice A6 x5.length cp7), (8, .int .i64 0), (12, .slice A_a0 a0.length c_a0), (13, .int .i64 (a0.length : Int)), (14, .int .i64 x8)]) (by kernel_rfl) ?_
                refine OpsT.done ?_
                have e := someS h3
                subst e
                exact Qn.thenJ fun a ha => ⟨0, rfl, ha.keep [3, 4, 8, 12, 13, 14] (by kernel_rfl), hI⟩
              ·
                simp only [hd36] at h3
                refine OpsT.keep [3, 4, 7, 8, 12, 13, 14, 35] (S' := [(3, .map (some b1)), (4, .slice A6 x5.length cp7), (7, .iface 68 (.int .i64 z39)), (8, .int .i64 (mVal (0 : Int) x22 x9)), (12, .slice A_a0 a0.length c_a0), (13, .int .i64 (a0.length : Int)), (14, .int .i64 x8), (35, .iface 68 (.int .i64 z39))]) (by (try simp only [hd36]); kernel_rfl) ?_
                refine OpsT.pures (r := []) [1, 2, 3, 4, 5, 6] [3, 4, 7, 8, 10, 12, 13, 14] (S' := [(3, .map (some b1)), (4, .slice A6 x5.length cp7), (7, .iface 68 (.int .i64 z39)), (8, .int .i64 (mVal (0 : Int) x22 x9)), (10, .bool true), (12, .slice A_a0 a0.length c_a0), (13, .int .i64 (a0.length : Int)), (14, .int .i64 x8)]) (by kernel_rfl) ?_
                refine OpsT.done ?_
                refine Qn.then ?_
                refine CodT.seq ?_
                refine CodT.regionL [0, 1] (by kernel_rfl) ?_
                refine OpsT.pures (r := []) [0, 1] [3, 4, 7, 8, 12, 13, 14, 40] (S' := [(3, .map (some b1)), (4, .slice A6 x5.length cp7), (7, .iface 68 (.int .i64 z39)), (8, .int .i64 (mVal (0 : Int) x22 x9)), (12, .slice A_a0 a0.length c_a0), (13, .int .i64 (a0.length : Int)), (14, .int .i64 x8), (40, .bool false)]) (by kernel_rfl) ?_
                refine OpsT.done ?_
                refine Qn.then ?_
                refine CodT.no (by kernel_rfl) ?_
                refine CodT.regionL [0, 1, 2, 3, 4, 5, 6, 7] (by kernel_rfl) ?_
                refine OpsT.pures (r := [5, 6, 7]) [0, 1, 2, 3, 4] [3, 4, 12, 13, 14, 41, 42, 45] (S' := [(3, .map (some b1)), (4, .slice A6 x5.length cp7), (12, .slice A_a0 a0.length c_a0), (13, .int .i64 (a0.length : Int)), (14, .int .i64 x8), (41, .int .i64 (mVal (0 : Int) x22 x9)), (42, .map (some b1)), (45, .iface 68 (.int .i64 z39))]) (by kernel_rfl) ?_
                refine OpsT.cons (Does.yi (Yl.lookup (d := 46) (mt := 67) (b := b1) (kv := dynV20) (vv := (fun x : Int => Value.int .i64 x)) (m := mSet (mIdx x22 x9) (wi64 ((mVal (0 : Int) x22 x9) + 1)) (mEnt (0 : Int) x22 x9)) (k := (Dyn20.i68 z39)) (ok := false) (r := .int .i64 (mVal (0 : Int) (Dyn20.i68 z39) (mSet (mIdx x22 x9) (wi64 ((mVal (0 : Int) x22 x9) + 1)) (mEnt (0 : Int) x22 x9)))) (by kernel_rfl) kt20 Go.Proofs.Try.underlying67 (0 : Int) (fun w => by kernel_rfl) (fun w hC => hC.mono (ent_refl _)) rfl) hI ?_)
                refine OpsT.pures (r := []) [6, 7] [3, 4, 8, 12, 13, 14] (S' := [(3, .map (some b1)), (4, .slice A6 x5.length cp7), (8, .int .i64 (if (mVal (0 : Int) (Dyn20.i68 z39) (mSet (mIdx x22 x9) (wi64 ((mVal (0 : Int) x22 x9) + 1)) (mEnt (0 : Int) x22 x9))) < (mVal (0 : Int) x22 x9) then mVal (0 : Int) (Dyn20.i68 z39) (mSet (mIdx x22 x9) (wi64 ((mVal (0 : Int) x22 x9) + 1)) (mEnt (0 : Int) x22 x9)) else mVal (0 : Int) x22 x9)), (12, .slice A_a0 a0.length c_a0), (13, .int .i64 (a0.length : Int)), (14, .int .i64 x8)]) (by kernel_rfl) ?_
                refine OpsT.done ?_
                have e := someS h3
                subst e
                exact Qn.thenJ fun a ha => ⟨if (mVal (0 : Int) (Dyn20.i68 z39) (mSet (mIdx x22 x9) (wi64 ((mVal (0 : Int) x22 x9) + 1)) (mEnt (0 : Int) x22 x9))) < (mVal (0 : Int) x22 x9) then mVal (0 : Int) (Dyn20.i68 z39) (mSet (mIdx x22 x9) (wi64 ((mVal (0 : Int) x22 x9) + 1)) (mEnt (0 : Int) x22 x9)) else mVal (0 : Int) x22 x9, (by simp only [hd36]), ha.keep [3, 4, 8, 12, 13, 14] (by kernel_rfl), hI⟩
            ·
              rintro a w ⟨x35, rfl, ha, hI⟩
              try dsimp only at h2
              refine CodT.of ?_ ha
              refine CodT.regionL [0, 1, 2, 3, 4] (by kernel_rfl) ?_
              refine OpsT.pures (r := [2, 3, 4]) [0, 1] [3, 12, 13, 14, 48, 49] (S' := [(3, .map (some b1)), (12, .slice A_a0 a0.length c_a0), (13, .int .i64 (a0.length : Int)), (14, .int .i64 x8), (48, .slice A6 x5.length cp7), (49, .int .i64 x35)]) (by kernel_rfl) ?_
              refine OpsT.cons (Does.buildSlice (en := (cI .i64)) (d := 50) (n := 1) (T := 38) (ps := [(0, .int .i64 x35)]) ([x35] : List Int) (by kernel_rfl) Go.Proofs.Try.underlying38 ty3 (by kernel_rfl) (by kernel_rfl) (by kernel_rfl) (by kernel_rfl) (len_all (fun _ => rfl)) hI ?_)
              intro b40 w hI
              obtain ⟨hg41, h2⟩ := guardS h2
              have hI := hI.mono (pick3 _ _ _ _)
              refine OpsT.cons (Does.append (d := 51) (t := 38) (tx := 38) (ty := 38) (ys := x5) (zs := ([x35] : List Int)) (x := .slice (some ⟨b40, 0, none⟩) (([x35] : List Int).length) 1) (by kernel_rfl) Go.Proofs.Try.underlying38 ty3 (by kernel_rfl) hI (src_own Go.Proofs.Try.underlying38 (hI.mono (pick2 _ _ _)) (one_flat _ (fun _ => rfl))) (ownS_facts (hI.mono (pick2 _ _ _))).2.2 (by unfold LIM at hg41; omega) hg41 ?_)
              intro A42 cp43 w hI
              refine OpsT.pures (r := []) [4] [3, 4, 12, 13, 14] (S' := [(3, .map (some b1)), (4, .slice A42 ((x5 ++ ([x35] : List Int)).length) cp43), (12, .slice A_a0 a0.length c_a0), (13, .int .i64 (a0.length : Int)), (14, .int .i64 x8)]) (by kernel_rfl) ?_
              refine OpsT.done ?_
              refine Qn.block_normal ?_
              have hI := hI.mono (pick2 _ _ _)
              have hI := hI.drop
              have e := someS h2
              subst e
              exact Qn.thenJ fun a ha => ⟨x5 ++ ([x35] : List Int), mSet (mIdx x22 x9) (wi64 ((mVal (0 : Int) x22 x9) + 1)) (mEnt (0 : Int) x22 x9), A42, cp43, rfl, ha.keep [3, 4, 12, 13, 14] (by kernel_rfl), hI⟩
      ·
        rintro a w ⟨x11, x14, A12, cp13, rfl, ha, hI⟩
        try dsimp only at h1
        refine CodT.of ?_ ha
        refine CodT.regionL [0, 1] (by kernel_rfl) ?_
        refine OpsT.pures (r := []) [0, 1] [3, 4, 12, 13, 14] (S' := [(3, .map (some b1)), (4, .slice A12 x11.length cp13), (12, .slice A_a0 a0.length c_a0), (13, .int .i64 (a0.length : Int)), (14, .int .i64 (wi64 (x8 + 1)))]) (by kernel_rfl) ?_
        refine OpsT.done ?_
        exact Qn.thenJ fun a ha => ⟨k, Nat.lt_succ_self k, x11, wi64 (x8 + 1), x14, A12, cp13, h1, ha.keep [3, 4, 12, 13, 14] (by kernel_rfl), hI⟩
    · rw [if_neg hb10] at h1
      refine CodT.no' (b := decide (x8 < (a0.length : Int))) (by kernel_rfl) (by simpa using hb10) ?_
      refine CodT.exit ?_
      refine Qn.exit_then ?_
      refine Qn.exit_then ?_
      refine Qn.block ?_
      have hI := hI.mono (pick2 _ _ _)
      have hI := hI.drop
      have e := someS h1
      subst e
      exact Qn.thenJ fun a ha => ⟨x5, A6, cp7, rfl, ha.keep [4] (by kernel_rfl), hI⟩
  ·
    rintro a w ⟨x2, A3, cp4, rfl, ha, hI⟩
    try dsimp only at h0
    refine Qn.of ?_ ha
    refine Qn.then ?_
    refine CodT.seq ?_
    refine CodT.regionL [0, 1] (by kernel_rfl) ?_
    refine OpsT.pures (r := []) [0, 1] [2] (S' := [(2, .slice A3 x2.length cp4)]) (by kernel_rfl) ?_
    refine OpsT.done ?_
    refine Qn.then ?_
    refine CodT.ret ?_
    have e := someS h0
    subst e
    refine Qn.keep [2] (S' := [(2, .slice A3 x2.length cp4)]) (by kernel_rfl) ?_
    exact post_ret (v := .slice A3 x2.length cp4) (fun a ha => RunRes.run (vs := [.slice A3 x2.length cp4]) (.tmp (t := 2) (by kernel_rfl) .nil) ha (by kernel_rfl)) ⟨A3, cp4, rfl, hI⟩
set_option maxRecDepth 100000 in
set_option maxHeartbeats 4000000 in
/-- (*strings.Builder).copyCheck -/
theorem c76 (w0 w : World) (Z : Hp) (A : HP)  (b_a0 : Nat) (a0_v_addr : Bool) (A_a0_v_buf : Option Addr) (c_a0_v_buf : Nat) (a0_v_buf : (List Int)) (hI : Inv w0 Z w (star (pt b_a0 (.cells ((([selfP b_a0 a0_v_addr, .slice A_a0_v_buf a0_v_buf.length c_a0_v_buf] : List Value))).toArray 107 (0, 0))) (star (ownS 5 (cI .u8) 1 A_a0_v_buf c_a0_v_buf a0_v_buf) A))) (r : (Bool × (List Int))) (h0 : strings_Builder_copyCheck a0_v_addr a0_v_buf = some r) :
    Calls prog 76 #[.pointer (some ⟨b_a0, 0, none⟩)] w (fun e w' => ∃ (A1 : Option Addr) (c1 : Nat), e = .returned (.tuple #[]) ∧ Inv w0 Z w' (star (pt b_a0 (.cells ((([selfP b_a0 r.1, .slice A1 r.2.length c1] : List Value))).toArray 107 (0, 0))) (star (ownS 5 (cI .u8) 1 A1 c1 r.2) A))) := by
  have e4 := calls_intro (R := (fun e w' => ∃ (A1 : Option Addr) (c1 : Nat), e = .returned (.tuple #[]) ∧ Inv w0 Z w' (star (pt b_a0 (.cells ((([selfP b_a0 r.1, .slice A1 r.2.length c1] : List Value))).toArray 107 (0, 0))) (star (ownS 5 (cI .u8) 1 A1 c1 r.2) A)))) (w := w) (args := [.pointer (some ⟨b_a0, 0, none⟩)]) (fn := Go.Proofs.Try.f76) 20 Go.Proofs.Try.func76 (by rfl) Go.Proofs.Try.ntmps76 (by kernel_rfl)
  refine e4 ?_
  clear e4
  unfold strings_Builder_copyCheck at h0
  refine CodT.seq ?_
  refine CodT.regionL [0, 1, 2, 3, 4] (by kernel_rfl) ?_
  refine OpsT.pures (r := [3, 4]) [0, 1, 2] [0, 4] (S' := [(0, .pointer (some ⟨b_a0, 0, none⟩)), (4, .pointer (some ⟨b_a0, 0, none⟩))]) (by kernel_rfl) ?_
  refine OpsT.cons (Does.yi (Yl.load (d := 5) (T := 105) (v := selfP b_a0 a0_v_addr) (by kernel_rfl) (ldB ty105 (l := (([selfP b_a0 a0_v_addr, .slice A_a0_v_buf a0_v_buf.length c_a0_v_buf] : List Value))) (o := 0) (v := selfP b_a0 a0_v_addr) (ent_refl _) (by kernel_rfl))) hI ?_)
  refine OpsT.cons (Does.yi (Yl.eqlSelf (d := 6) (T := 105) (b := b_a0) (t := a0_v_addr) (by kernel_rfl) Go.Proofs.Try.underlying105 (by kernel_rfl)) hI ?_)
  refine OpsT.done ?_
  refine Qn.then ?_
  by_cases hb1 : (!a0_v_addr) = true
  · rw [if_pos hb1] at h0
    refine CodT.yes' (b := !a0_v_addr) (by kernel_rfl) hb1 ?_
    refine CodT.regionL [0, 1, 2, 3, 4, 5, 6, 7] (by kernel_rfl) ?_
    refine OpsT.pures (r := [2, 3, 4, 5, 6, 7]) [0, 1] [7, 8] (S' := [(7, .pointer (some ⟨b_a0, 0, none⟩)), (8, .pointer (some ⟨b_a0, 0, none⟩))]) (by kernel_rfl) ?_
    refine OpsT.cons (Does.yi (Yl.toUns (d := 9) (src := 105) (dst := 118) (b := b_a0) (l := (([selfP b_a0 a0_v_addr, .slice A_a0_v_buf a0_v_buf.length c_a0_v_buf] : List Value))) (by kernel_rfl) Go.Proofs.Try.underlying105 Go.Proofs.Try.underlying118 ty107 (by kernel_rfl) (by kernel_rfl) (fun w hC => (hC.mono (ent_refl _)).block)) hI ?_)
    refine OpsT.cons (Does.ext (d := some 10) (n := 79) (vs := [.pointer (some ⟨b_a0, 0, none⟩)]) (by kernel_rfl) (ext79 _ _) ?_)
    refine OpsT.cons (Does.yi (Yl.fromUns (d := 11) (src := 118) (dst := 105) (b := b_a0) (l := (([selfP b_a0 a0_v_addr, .slice A_a0_v_buf a0_v_buf.length c_a0_v_buf] : List Value))) 2 (by kernel_rfl) Go.Proofs.Try.underlying118 Go.Proofs.Try.underlying105 ty107 (by kernel_rfl) (by kernel_rfl) (fun w hC => (hC.mono (ent_refl _)).block)) hI ?_)
    refine OpsT.pures (r := [7]) [5, 6] [11, 13] (S' := [(11, .pointer (some ⟨b_a0, 0, none⟩)), (13, .pointer (some ⟨b_a0, 0, none⟩))]) (by kernel_rfl) ?_
    refine OpsT.cons (Does.storeLit (T := 105) (b := b_a0) (o := 0) (v := .pointer (some ⟨b_a0, 0, none⟩)) (l := (([selfP b_a0 a0_v_addr, .slice A_a0_v_buf a0_v_buf.length c_a0_v_buf] : List Value))) (vs := ([.pointer (some ⟨b_a0, 0, none⟩)] : List Value)) (L' := (([selfP b_a0 true, .slice A_a0_v_buf a0_v_buf.length c_a0_v_buf] : List Value))) (by kernel_rfl) ty105 hI (by kernel_rfl) (by kernel_rfl) (by kernel_rfl) (by kernel_rfl) (by kernel_rfl) ?_)
    intro w hI
    refine OpsT.done ?_
    have e := someS h0
    subst e
    refine Qn.keep [] (S' := []) (by kernel_rfl) ?_
    exact post_normal (v := .tuple #[]) (fun a ha => RunRes.run (vs := []) .nil ha (by kernel_rfl)) ⟨A_a0_v_buf, c_a0_v_buf, rfl, hI⟩
  · rw [if_neg hb1] at h0
    refine CodT.no' (b := !a0_v_addr) (by kernel_rfl) (by simpa using hb1) ?_
    refine CodT.seq ?_
    refine CodT.regionL [0, 1, 2, 3, 4, 5] (by kernel_rfl) ?_
    refine OpsT.pures (r := [3, 4, 5]) [0, 1, 2] [0, 16] (S' := [(0, .pointer (some ⟨b_a0, 0, none⟩)), (16, .pointer (some ⟨b_a0, 0, none⟩))]) (by kernel_rfl) ?_
    refine OpsT.cons (Does.yi (Yl.load (d := 17) (T := 105) (v := selfP b_a0 a0_v_addr) (by kernel_rfl) (ldB ty105 (l := (([selfP b_a0 a0_v_addr, .slice A_a0_v_buf a0_v_buf.length c_a0_v_buf] : List Value))) (o := 0) (v := selfP b_a0 a0_v_addr) (ent_refl _) (by kernel_rfl))) hI ?_)
    refine OpsT.pures (r := [5]) [4] [17, 18] (S' := [(17, selfP b_a0 a0_v_addr), (18, .pointer (some ⟨b_a0, 0, none⟩))]) (by kernel_rfl) ?_
    refine OpsT.cons (Does.yi (Yl.neqSelf (d := 19) (T := 105) (b := b_a0) (t := a0_v_addr) (by kernel_rfl) Go.Proofs.Try.underlying105 ty107 (by kernel_rfl)) hI ?_)
    refine OpsT.done ?_
    refine Qn.then ?_
    refine CodT.no' (b := !a0_v_addr) (by kernel_rfl) (by simpa using hb1) ?_
    refine CodT.skip ?_
    have e := someS h0
    subst e
    refine Qn.keep [] (S' := []) (by kernel_rfl) ?_
    exact post_normal (v := .tuple #[]) (fun a ha => RunRes.run (vs := []) .nil ha (by kernel_rfl)) ⟨A_a0_v_buf, c_a0_v_buf, rfl, hI⟩
set_option maxRecDepth 100000 in
set_option maxHeartbeats 4000000 in
/-- (*strings.Builder).WriteByte -/
theorem c71 (w0 w : World) (Z : Hp) (A : HP)  (b_a0 : Nat) (a0_v_addr : Bool) (A_a0_v_buf : Option Addr) (c_a0_v_buf : Nat) (a0_v_buf : (List Int)) (a1 : Int) (hI : Inv w0 Z w (star (pt b_a0 (.cells ((([selfP b_a0 a0_v_addr, .slice A_a0_v_buf a0_v_buf.length c_a0_v_buf] : List Value))).toArray 107 (0, 0))) (star (ownS 5 (cI .u8) 1 A_a0_v_buf c_a0_v_buf a0_v_buf) A))) (r : (Dyn109 × Bool × (List Int))) (h0 : strings_Builder_WriteByte a0_v_addr a0_v_buf a1 = some r) :
    Calls prog 71 #[.pointer (some ⟨b_a0, 0, none⟩), .int .u8 a1] w (fun e w' => ∃ (A1 : Option Addr) (c1 : Nat), e = .returned (dynV109 r.1) ∧ Inv w0 Z w' (star (pt b_a0 (.cells ((([selfP b_a0 r.2.1, .slice A1 r.2.2.length c1] : List Value))).toArray 107 (0, 0))) (star (ownS 5 (cI .u8) 1 A1 c1 r.2.2) A))) := by
  have e4 := calls_intro (R := (fun e w' => ∃ (A1 : Option Addr) (c1 : Nat), e = .returned (dynV109 r.1) ∧ Inv w0 Z w' (star (pt b_a0 (.cells ((([selfP b_a0 r.2.1, .slice A1 r.2.2.length c1] : List Value))).toArray 107 (0, 0))) (star (ownS 5 (cI .u8) 1 A1 c1 r.2.2) A)))) (w := w) (args := [.pointer (some ⟨b_a0, 0, none⟩), .int .u8 a1]) (fn := Go.Proofs.Try.f71) 17 Go.Proofs.Try.func71 (by rfl) Go.Proofs.Try.ntmps71 (by kernel_rfl)
  refine e4 ?_
  clear e4
  unfold strings_Builder_WriteByte at h0
  refine CodT.seq ?_
  refine CodT.regionL [0] (by kernel_rfl) ?_
  refine OpsT.pures (r := []) [0] [0, 1] (S' := [(0, .pointer (some ⟨b_a0, 0, none⟩)), (1, .int .u8 a1)]) (by kernel_rfl) ?_
  refine OpsT.done ?_
  refine Qn.then ?_
  refine CodT.seq ?_
  refine CodT.regionL [0, 1] (by kernel_rfl) ?_
  refine OpsT.pures (r := [1]) [0] [0, 1, 5] (S' := [(0, .pointer (some ⟨b_a0, 0, none⟩)), (1, .int .u8 a1), (5, .pointer (some ⟨b_a0, 0, none⟩))]) (by kernel_rfl) ?_
  have hI := hI.mono (pick2 _ _ _)
  have hI := hI.mono (pick2 _ _ _)
  obtain ⟨⟨y2, y3⟩, hc1, h0⟩ := bindS h0
  try dsimp only at h0
  refine OpsT.cons (Does.call (d := some 6) (n := 76) (vs := [.pointer (some ⟨b_a0, 0, none⟩)]) (by kernel_rfl) en76 (c76 w0 w _ _ b_a0 a0_v_addr A_a0_v_buf c_a0_v_buf a0_v_buf hI _ hc1) ?_)
  rintro e w ⟨A4, cp5, rfl, hI⟩
  refine ⟨_, rfl, ?_⟩
  refine OpsT.done ?_
  refine Qn.then ?_
  refine CodT.seq ?_
  refine CodT.regionL [0, 1, 2, 3, 4, 5, 6, 7, 8, 9, 10] (by kernel_rfl) ?_
  refine OpsT.pures (r := [4, 5, 6, 7, 8, 9, 10]) [0, 1, 2, 3] [1, 7, 10] (S' := [(1, .int .u8 a1), (7, .pointer (some ⟨b_a0, 0, none⟩)), (10, .pointer (some ⟨b_a0, 1, none⟩))]) (by kernel_rfl) ?_
  refine OpsT.cons (Does.yi (Yl.load (d := 11) (T := 41) (v := .slice A4 y3.length cp5) (by kernel_rfl) (ldB ty41 (l := (([selfP b_a0 y2, .slice A4 y3.length cp5] : List Value))) (o := 1) (v := .slice A4 y3.length cp5) (ent_refl _) (by kernel_rfl))) hI ?_)
  refine OpsT.pures (r := [6, 7, 8, 9, 10]) [5] [7, 11, 12] (S' := [(7, .pointer (some ⟨b_a0, 0, none⟩)), (11, .slice A4 y3.length cp5), (12, .int .u8 a1)]) (by kernel_rfl) ?_
  refine OpsT.cons (Does.buildSlice (en := (cI .u8)) (d := 13) (n := 1) (T := 41) (ps := [(0, .int .u8 a1)]) ([a1] : List Int) (by kernel_rfl) Go.Proofs.Try.underlying41 ty5 (by kernel_rfl) (by kernel_rfl) (by kernel_rfl) (by kernel_rfl) (len_all (fun _ => rfl)) hI ?_)
  intro b6 w hI
  obtain ⟨hg7, h0⟩ := guardS h0
  have hI := hI.mono (pick3 _ _ _ _)
  refine OpsT.cons (Does.append (d := 14) (t := 41) (tx := 41) (ty := 41) (ys := y3) (zs := ([a1] : List Int)) (x := .slice (some ⟨b6, 0, none⟩) (([a1] : List Int).length) 1) (by kernel_rfl) Go.Proofs.Try.underlying41 ty5 (by kernel_rfl) hI (src_own Go.Proofs.Try.underlying41 (hI.mono (pick2 _ _ _)) (one_flat _ (fun _ => rfl))) (ownS_facts (hI.mono (pick2 _ _ _))).2.2 (by unfold LIM at hg7; omega) hg7 ?_)
  intro A8 cp9 w hI
  refine OpsT.pures (r := [10]) [8, 9] [14, 16] (S' := [(14, .slice A8 ((y3 ++ ([a1] : List Int)).length) cp9), (16, .pointer (some ⟨b_a0, 1, none⟩))]) (by kernel_rfl) ?_
  have hI := hI.mono (pick3 _ _ _ _)
  refine OpsT.cons (Does.storeLit (T := 41) (b := b_a0) (o := 1) (v := .slice A8 ((y3 ++ ([a1] : List Int)).length) cp9) (l := (([selfP b_a0 y2, .slice A4 y3.length cp5] : List Value))) (vs := ([.slice A8 ((y3 ++ ([a1] : List Int)).length) cp9] : List Value)) (L' := (([selfP b_a0 y2, .slice A8 ((y3 ++ ([a1] : List Int)).length) cp9] : List Value))) (by kernel_rfl) ty41 hI (by kernel_rfl) (by kernel_rfl) (by kernel_rfl) (by kernel_rfl) (by kernel_rfl) ?_)
  intro w hI
  refine OpsT.done ?_
  refine Qn.then ?_
  refine CodT.seq ?_
  refine CodT.regionL [0] (by kernel_rfl) ?_
  refine OpsT.pures (r := []) [0] [4] (S' := [(4, .nilIface)]) (by kernel_rfl) ?_
  refine OpsT.done ?_
  refine Qn.then ?_
  refine CodT.ret ?_
  have hI := hI.mono (pick3 _ _ _ _)
  have hI := hI.drop
  have e := someS h0
  subst e
  refine Qn.keep [4] (S' := [(4, .nilIface)]) (by kernel_rfl) ?_
  exact post_ret (v := .nilIface) (fun a ha => RunRes.run (vs := [.nilIface]) (.tmp (t := 4) (by kernel_rfl) .nil) ha (by kernel_rfl)) ⟨A8, cp9, rfl, hI⟩
set_option maxRecDepth 100000 in
set_option maxHeartbeats 4000000 in
/-- unicode/utf8.appendRuneNonASCII -/
theorem c80 (w0 w : World) (Z : Hp) (A : HP)  (A_a0 : Option Addr) (c_a0 : Nat) (a0 : (List Int)) (a1 : Int) (hI : Inv w0 Z w (star (ownS 5 (cI .u8) 1 A_a0 c_a0 a0) A)) (r : (List Int)) (h0 : utf8_appendRuneNonASCII a0 a1 = some r) :
    Calls prog 80 #[.slice A_a0 a0.length c_a0, .int .i32 a1] w (fun e w' => ∃ (A1 : Option Addr) (c1 : Nat), e = .returned (.slice A1 r.length c1) ∧ Inv w0 Z w' (star (ownS 5 (cI .u8) 1 A1 c1 r) A)) := by
  have e4 := calls_intro (R := (fun e w' => ∃ (A1 : Option Addr) (c1 : Nat), e = .returned (.slice A1 r.length c1) ∧ Inv w0 Z w' (star (ownS 5 (cI .u8) 1 A1 c1 r) A))) (w := w) (args := [.slice A_a0 a0.length c_a0, .int .i32 a1]) (fn := Go.Proofs.Try.f80) 78 Go.Proofs.Try.func80 (by rfl) Go.Proofs.Try.ntmps80 (by kernel_rfl)
  refine e4 ?_
  clear e4
  unfold utf8_appendRuneNonASCII at h0
  refine CodT.seq ?_
  refine CodT.regionL [0] (by kernel_rfl) ?_
  refine OpsT.pures (r := []) [0] [0, 1] (S' := [(0, .slice A_a0 a0.length c_a0), (1, .int .i32 a1)]) (by kernel_rfl) ?_
  refine OpsT.done ?_
  refine Qn.then ?_
  refine CodT.seq ?_
  refine CodT.regionL [0, 1, 2] (by kernel_rfl) ?_
  refine OpsT.pures (r := []) [0, 1, 2] [0, 1, 5] (S' := [(0, .slice A_a0 a0.length c_a0), (1, .int .i32 a1), (5, .int .u32 (wu32 a1))]) (by kernel_rfl) ?_
  refine OpsT.done ?_
  refine Qn.then ?_
  refine CodT.block ?_
  refine CodT.seq ?_
  refine CodT.regionL [0, 1, 2] (by kernel_rfl) ?_
  refine OpsT.pures (r := []) [0, 1, 2] [0, 1, 5, 11] (S' := [(0, .slice A_a0 a0.length c_a0), (1, .int .i32 a1), (5, .int .u32 (wu32 a1)), (11, .bool (decide ((wu32 a1) ≤ 2047)))]) (by kernel_rfl) ?_
  refine OpsT.done ?_
  refine Qn.then ?_
  by_cases hb1 : (decide ((wu32 a1) ≤ 2047)) = true
  · rw [if_pos hb1] at h0
    refine CodT.yes' (b := decide ((wu32 a1) ≤ 2047)) (by kernel_rfl) hb1 ?_
    refine CodT.seq ?_
    refine CodT.regionL [0, 1, 2, 3, 4, 5, 6, 7, 8, 9, 10, 11] (by kernel_rfl) ?_
    refine OpsT.pures (r := [9, 10, 11]) [0, 1, 2, 3, 4, 5, 6, 7, 8] [14, 18, 22] (S' := [(14, .slice A_a0 a0.length c_a0), (18, .int .u8 (bOr .u8 192 (wu8 (bShr .i32 a1 6)))), (22, .int .u8 (bOr .u8 128 (bAnd .u8 (wu8 a1) 63)))]) (by kernel_rfl) ?_
    refine OpsT.cons (Does.buildSlice (en := (cI .u8)) (d := 23) (n := 2) (T := 41) (ps := [(0, .int .u8 (bOr .u8 192 (wu8 (bShr .i32 a1 6)))), (1, .int .u8 (bOr .u8 128 (bAnd .u8 (wu8 a1) 63)))]) ([bOr .u8 192 (wu8 (bShr .i32 a1 6)), bOr .u8 128 (bAnd .u8 (wu8 a1) 63)] : List Int) (by kernel_rfl) Go.Proofs.Try.underlying41 ty5 (by kernel_rfl) (by kernel_rfl) (by kernel_rfl) (by kernel_rfl) (len_all (fun _ => rfl)) hI ?_)
    intro b2 w hI
    obtain ⟨hg3, h0⟩ := guardS h0
    have hI := hI.mono (pick2 _ _ _)
    refine OpsT.cons (Does.append (d := 24) (t := 41) (tx := 41) (ty := 41) (ys := a0) (zs := ([bOr .u8 192 (wu8 (bShr .i32 a1 6)), bOr .u8 128 (bAnd .u8 (wu8 a1) 63)] : List Int)) (x := .slice (some ⟨b2, 0, none⟩) (([bOr .u8 192 (wu8 (bShr .i32 a1 6)), bOr .u8 128 (bAnd .u8 (wu8 a1) 63)] : List Int).length) 2) (by kernel_rfl) Go.Proofs.Try.underlying41 ty5 (by kernel_rfl) hI (src_own Go.Proofs.Try.underlying41 (hI.mono (pick2 _ _ _)) (one_flat _ (fun _ => rfl))) (ownS_facts (hI.mono (pick2 _ _ _))).2.2 (by unfold LIM at hg3; omega) hg3 ?_)
    intro A4 cp5 w hI
    refine OpsT.pures (r := []) [11] [4] (S' := [(4, .slice A4 ((a0 ++ ([bOr .u8 192 (wu8 (bShr .i32 a1 6)), bOr .u8 128 (bAnd .u8 (wu8 a1) 63)] : List Int)).length) cp5)]) (by kernel_rfl) ?_
    refine OpsT.done ?_
    refine Qn.then ?_
    refine CodT.ret ?_
    refine Qn.block_ret ?_
    have hI := hI.mono (pick2 _ _ _)
    have hI := hI.drop
    have e := someS h0
    subst e
    refine Qn.keep [4] (S' := [(4, .slice A4 ((a0 ++ ([bOr .u8 192 (wu8 (bShr .i32 a1 6)), bOr .u8 128 (bAnd .u8 (wu8 a1) 63)] : List Int)).length) cp5)]) (by kernel_rfl) ?_
    exact post_ret (v := .slice A4 ((a0 ++ ([bOr .u8 192 (wu8 (bShr .i32 a1 6)), bOr .u8 128 (bAnd .u8 (wu8 a1) 63)] : List Int)).length) cp5) (fun a ha => RunRes.run (vs := [.slice A4 ((a0 ++ ([bOr .u8 192 (wu8 (bShr .i32 a1 6)), bOr .u8 128 (bAnd .u8 (wu8 a1) 63)] : List Int)).length) cp5]) (.tmp (t := 4) (by kernel_rfl) .nil) ha (by kernel_rfl)) ⟨A4, cp5, rfl, hI⟩
  · rw [if_neg hb1] at h0
    refine CodT.no' (b := decide ((wu32 a1) ≤ 2047)) (by kernel_rfl) (by simpa using hb1) ?_
    obtain ⟨r1, h1, h0⟩ := bindS h0
    refine CodT.meet (fun a w => ∃ (x6 : Bool), x6 = r1 ∧ Fr 78 [(0, .slice A_a0 a0.length c_a0), (1, .int .i32 a1), (5, .int .u32 (wu32 a1)), (25, .bool x6)] a ∧ Inv w0 Z w (star (ownS 5 (cI .u8) 1 A_a0 c_a0 a0) A)) ?_ ?_
    ·
      refine CodT.seq ?_
      refine CodT.regionL [0, 1, 2] (by kernel_rfl) ?_
      refine OpsT.pures (r := []) [0, 1, 2] [0, 1, 5, 25] (S' := [(0, .slice A_a0 a0.length c_a0), (1, .int .i32 a1), (5, .int .u32 (wu32 a1)), (25, .bool (decide ((wu32 a1) < 55296)))]) (by kernel_rfl) ?_
      refine OpsT.done ?_
      refine Qn.then ?_
      by_cases hb7 : (decide ((wu32 a1) < 55296)) = true
      · rw [if_pos hb7] at h1
        refine CodT.yes' (b := decide ((wu32 a1) < 55296)) (by kernel_rfl) hb7 ?_
        refine CodT.skip ?_
        have e := someS h1
        subst e
        exact Qn.thenJ fun a ha => ⟨decide ((wu32 a1) < 55296), rfl, ha.keep [0, 1, 5, 25] (by kernel_rfl), hI⟩
      · rw [if_neg hb7] at h1
        refine CodT.no' (b := decide ((wu32 a1) < 55296)) (by kernel_rfl) (by simpa using hb7) ?_
        refine CodT.regionL [0, 1, 2, 3, 4, 5, 6] (by kernel_rfl) ?_
        refine OpsT.pures (r := [3, 4, 5, 6]) [0, 1, 2] [0, 1, 5, 30] (S' := [(0, .slice A_a0 a0.length c_a0), (1, .int .i32 a1), (5, .int .u32 (wu32 a1)), (30, .bool (decide ((57343 : Int) < (wu32 a1))))]) (by kernel_rfl) ?_
        by_cases hb8 : (decide ((57343 : Int) < (wu32 a1))) = true
        · rw [if_pos hb8] at h1
          refine OpsT.keep [0, 1, 5, 30] (S' := [(0, .slice A_a0 a0.length c_a0), (1, .int .i32 a1), (5, .int .u32 (wu32 a1)), (30, .bool true)]) (by (try simp only [hb8]); kernel_rfl) ?_
          refine OpsT.pures (r := []) [3, 4, 5, 6] [0, 1, 5, 25] (S' := [(0, .slice A_a0 a0.length c_a0), (1, .int .i32 a1), (5, .int .u32 (wu32 a1)), (25, .bool (decide ((wu32 a1) ≤ 65535)))]) (by kernel_rfl) ?_
          refine OpsT.done ?_
          have e := someS h1
          subst e
          exact Qn.thenJ fun a ha => ⟨decide ((wu32 a1) ≤ 65535), rfl, ha.keep [0, 1, 5, 25] (by kernel_rfl), hI⟩
        · rw [if_neg hb8] at h1
          have hb8 : (decide ((57343 : Int) < (wu32 a1))) = false := by simpa using hb8
          refine OpsT.keep [0, 1, 5, 30] (S' := [(0, .slice A_a0 a0.length c_a0), (1, .int .i32 a1), (5, .int .u32 (wu32 a1)), (30, .bool false)]) (by (try simp only [hb8]); kernel_rfl) ?_
          refine OpsT.pures (r := []) [3, 4, 5, 6] [0, 1, 5, 25] (S' := [(0, .slice A_a0 a0.length c_a0), (1, .int .i32 a1), (5, .int .u32 (wu32 a1)), (25, .bool false)]) (by kernel_rfl) ?_
          refine OpsT.done ?_
          have e := someS h1
          subst e
          exact Qn.thenJ fun a ha => ⟨false, rfl, ha.keep [0, 1, 5, 25] (by kernel_rfl), hI⟩
    ·
      rintro a w ⟨x6, rfl, ha, hI⟩
      try dsimp only at h0
      refine CodT.of ?_ ha
      by_cases hb9 : x6 = true
      · rw [if_pos hb9] at h0
        refine CodT.yes' (b := x6) (by kernel_rfl) hb9 ?_
        refine CodT.seq ?_
        refine CodT.regionL [0, 1, 2, 3, 4, 5, 6, 7, 8, 9, 10, 11, 12, 13, 14, 15, 16] (by kernel_rfl) ?_
        refine OpsT.pures (r := [14, 15, 16]) [0, 1, 2, 3, 4, 5, 6, 7, 8, 9, 10, 11, 12, 13] [34, 38, 43, 47] (S' := [(34, .slice A_a0 a0.length c_a0), (38, .int .u8 (bOr .u8 224 (wu8 (bShr .i32 a1 12)))), (43, .int .u8 (bOr .u8 128 (bAnd .u8 (wu8 (bShr .i32 a1 6)) 63))), (47, .int .u8 (bOr .u8 128 (bAnd .u8 (wu8 a1) 63)))]) (by kernel_rfl) ?_
        refine OpsT.cons (Does.buildSlice (en := (cI .u8)) (d := 48) (n := 3) (T := 41) (ps := [(0, .int .u8 (bOr .u8 224 (wu8 (bShr .i32 a1 12)))), (1, .int .u8 (bOr .u8 128 (bAnd .u8 (wu8 (bShr .i32 a1 6)) 63))), (2, .int .u8 (bOr .u8 128 (bAnd .u8 (wu8 a1) 63)))]) ([bOr .u8 224 (wu8 (bShr .i32 a1 12)), bOr .u8 128 (bAnd .u8 (wu8 (bShr .i32 a1 6)) 63), bOr .u8 128 (bAnd .u8 (wu8 a1) 63)] : List Int) (by kernel_rfl) Go.Proofs.Try.underlying41 ty5 (by kernel_rfl) (by kernel_rfl) (by kernel_rfl) (by kernel_rfl) (len_all (fun _ => rfl)) hI ?_)
        intro b10 w hI
        obtain ⟨hg11, h0⟩ := guardS h0
        have hI := hI.mono (pick2 _ _ _)
        refine OpsT.cons (Does.append (d := 49) (t := 41) (tx := 41) (ty := 41) (ys := a0) (zs := ([bOr .u8 224 (wu8 (bShr .i32 a1 12)), bOr .u8 128 (bAnd .u8 (wu8 (bShr .i32 a1 6)) 63), bOr .u8 128 (bAnd .u8 (wu8 a1) 63)] : List Int)) (x := .slice (some ⟨b10, 0, none⟩) (([bOr .u8 224 (wu8 (bShr .i32 a1 12)), bOr .u8 128 (bAnd .u8 (wu8 (bShr .i32 a1 6)) 63), bOr .u8 128 (bAnd .u8 (wu8 a1) 63)] : List Int).length) 3) (by kernel_rfl) Go.Proofs.Try.underlying41 ty5 (by kernel_rfl) hI (src_own Go.Proofs.Try.underlying41 (hI.mono (pick2 _ _ _)) (one_flat _ (fun _ => rfl))) (ownS_facts (hI.mono (pick2 _ _ _))).2.2 (by unfold LIM at hg11; omega) hg11 ?_)
        intro A12 cp13 w hI
        refine OpsT.pures (r := []) [16] [4] (S' := [(4, .slice A12 ((a0 ++ ([bOr .u8 224 (wu8 (bShr .i32 a1 12)), bOr .u8 128 (bAnd .u8 (wu8 (bShr .i32 a1 6)) 63), bOr .u8 128 (bAnd .u8 (wu8 a1) 63)] : List Int)).length) cp13)]) (by kernel_rfl) ?_
        refine OpsT.done ?_
        refine Qn.then ?_
        refine CodT.ret ?_
        refine Qn.block_ret ?_
        have hI := hI.mono (pick2 _ _ _)
        have hI := hI.drop
        have e := someS h0
        subst e
        refine Qn.keep [4] (S' := [(4, .slice A12 ((a0 ++ ([bOr .u8 224 (wu8 (bShr .i32 a1 12)), bOr .u8 128 (bAnd .u8 (wu8 (bShr .i32 a1 6)) 63), bOr .u8 128 (bAnd .u8 (wu8 a1) 63)] : List Int)).length) cp13)]) (by kernel_rfl) ?_
        exact post_ret (v := .slice A12 ((a0 ++ ([bOr .u8 224 (wu8 (bShr .i32 a1 12)), bOr .u8 128 (bAnd .u8 (wu8 (bShr .i32 a1 6)) 63), bOr .u8 128 (bAnd .u8 (wu8 a1) 63)] : List Int)).length) cp13) (fun a ha => RunRes.run (vs := [.slice A12 ((a0 ++ ([bOr .u8 224 (wu8 (bShr .i32 a1 12)), bOr .u8 128 (bAnd .u8 (wu8 (bShr .i32 a1 6)) 63), bOr .u8 128 (bAnd .u8 (wu8 a1) 63)] : List Int)).length) cp13]) (.tmp (t := 4) (by kernel_rfl) .nil) ha (by kernel_rfl)) ⟨A12, cp13, rfl, hI⟩
      · rw [if_neg hb9] at h0
        refine CodT.no' (b := x6) (by kernel_rfl) (by simpa using hb9) ?_
        obtain ⟨r1, h1, h0⟩ := bindS h0
        refine CodT.meet (fun a w => ∃ (x14 : Bool), x14 = r1 ∧ Fr 78 [(0, .slice A_a0 a0.length c_a0), (1, .int .i32 a1), (50, .bool x14)] a ∧ Inv w0 Z w (star (ownS 5 (cI .u8) 1 A_a0 c_a0 a0) A)) ?_ ?_
        ·
          refine CodT.regionL [0, 1, 2, 3, 4, 5, 6] (by kernel_rfl) ?_
          refine OpsT.pures (r := [3, 4, 5, 6]) [0, 1, 2] [0, 1, 5, 53] (S' := [(0, .slice A_a0 a0.length c_a0), (1, .int .i32 a1), (5, .int .u32 (wu32 a1)), (53, .bool (decide ((wu32 a1) > 65535)))]) (by kernel_rfl) ?_
          by_cases hb15 : (decide ((wu32 a1) > 65535)) = true
          · rw [if_pos hb15] at h1
            refine OpsT.keep [0, 1, 5, 53] (S' := [(0, .slice A_a0 a0.length c_a0), (1, .int .i32 a1), (5, .int .u32 (wu32 a1)), (53, .bool true)]) (by (try simp only [hb15]); kernel_rfl) ?_
            refine OpsT.pures (r := []) [3, 4, 5, 6] [0, 1, 50] (S' := [(0, .slice A_a0 a0.length c_a0), (1, .int .i32 a1), (50, .bool (decide ((wu32 a1) ≤ 1114111)))]) (by kernel_rfl) ?_
            refine OpsT.done ?_
            have e := someS h1
            subst e
            exact Qn.thenJ fun a ha => ⟨decide ((wu32 a1) ≤ 1114111), rfl, ha.keep [0, 1, 50] (by kernel_rfl), hI⟩
          · rw [if_neg hb15] at h1
            have hb15 : (decide ((wu32 a1) > 65535)) = false := by simpa using hb15
            refine OpsT.keep [0, 1, 5, 53] (S' := [(0, .slice A_a0 a0.length c_a0), (1, .int .i32 a1), (5, .int .u32 (wu32 a1)), (53, .bool false)]) (by (try simp only [hb15]); kernel_rfl) ?_
            refine OpsT.pures (r := []) [3, 4, 5, 6] [0, 1, 50] (S' := [(0, .slice A_a0 a0.length c_a0), (1, .int .i32 a1), (50, .bool false)]) (by kernel_rfl) ?_
            refine OpsT.done ?_
            have e := someS h1
            subst e
            exact Qn.thenJ fun a ha => ⟨false, rfl, ha.keep [0, 1, 50] (by kernel_rfl), hI⟩
        ·
          rintro a w ⟨x14, rfl, ha, hI⟩
          try dsimp only at h0
          refine CodT.of ?_ ha
          by_cases hb16 : x14 = true
          · rw [if_pos hb16] at h0
            refine CodT.yes' (b := x14) (by kernel_rfl) hb16 ?_
            refine CodT.seq ?_
            refine CodT.regionL [0, 1, 2, 3, 4, 5, 6, 7, 8, 9, 10, 11, 12, 13, 14, 15, 16, 17, 18, 19, 20, 21] (by kernel_rfl) ?_
            refine OpsT.pures (r := [19, 20, 21]) [0, 1, 2, 3, 4, 5, 6, 7, 8, 9, 10, 11, 12, 13, 14, 15, 16, 17, 18] [57, 61, 66, 71, 75] (S' := [(57, .slice A_a0 a0.length c_a0), (61, .int .u8 (bOr .u8 240 (wu8 (bShr .i32 a1 18)))), (66, .int .u8 (bOr .u8 128 (bAnd .u8 (wu8 (bShr .i32 a1 12)) 63))), (71, .int .u8 (bOr .u8 128 (bAnd .u8 (wu8 (bShr .i32 a1 6)) 63))), (75, .int .u8 (bOr .u8 128 (bAnd .u8 (wu8 a1) 63)))]) (by kernel_rfl) ?_
            refine OpsT.cons (Does.buildSlice (en := (cI .u8)) (d := 76) (n := 4) (T := 41) (ps := [(0, .int .u8 (bOr .u8 240 (wu8 (bShr .i32 a1 18)))), (1, .int .u8 (bOr .u8 128 (bAnd .u8 (wu8 (bShr .i32 a1 12)) 63))), (2, .int .u8 (bOr .u8 128 (bAnd .u8 (wu8 (bShr .i32 a1 6)) 63))), (3, .int .u8 (bOr .u8 128 (bAnd .u8 (wu8 a1) 63)))]) ([bOr .u8 240 (wu8 (bShr .i32 a1 18)), bOr .u8 128 (bAnd .u8 (wu8 (bShr .i32 a1 12)) 63), bOr .u8 128 (bAnd .u8 (wu8 (bShr .i32 a1 6)) 63), bOr .u8 128 (bAnd .u8 (wu8 a1) 63)] : List Int) (by kernel_rfl) Go.Proofs.Try.underlying41 ty5 (by kernel_rfl) (by kernel_rfl) (by kernel_rfl) (by kernel_rfl) (len_all (fun _ => rfl)) hI ?_)
            intro b17 w hI
            obtain ⟨hg18, h0⟩ := guardS h0
            have hI := hI.mono (pick2 _ _ _)
            refine OpsT.cons (Does.append (d := 77) (t := 41) (tx := 41) (ty := 41) (ys := a0) (zs := ([bOr .u8 240 (wu8 (bShr .i32 a1 18)), bOr .u8 128 (bAnd .u8 (wu8 (bShr .i32 a1 12)) 63), bOr .u8 128 (bAnd .u8 (wu8 (bShr .i32 a1 6)) 63), bOr .u8 128 (bAnd .u8 (wu8 a1) 63)] : List Int)) (x := .slice (some ⟨b17, 0, none⟩) (([bOr .u8 240 (wu8 (bShr .i32 a1 18)), bOr .u8 128 (bAnd .u8 (wu8 (bShr .i32 a1 12)) 63), bOr .u8 128 (bAnd .u8 (wu8 (bShr .i32 a1 6)) 63), bOr .u8 128 (bAnd .u8 (wu8 a1) 63)] : List Int).length) 4) (by kernel_rfl) Go.Proofs.Try.underlying41 ty5 (by kernel_rfl) hI (src_own Go.Proofs.Try.underlying41 (hI.mono (pick2 _ _ _)) (one_flat _ (fun _ => rfl))) (ownS_facts (hI.mono (pick2 _ _ _))).2.2 (by unfold LIM at hg18; omega) hg18 ?_)
            intro A19 cp20 w hI
            refine OpsT.pures (r := []) [21] [4] (S' := [(4, .slice A19 ((a0 ++ ([bOr .u8 240 (wu8 (bShr .i32 a1 18)), bOr .u8 128 (bAnd .u8 (wu8 (bShr .i32 a1 12)) 63), bOr .u8 128 (bAnd .u8 (wu8 (bShr .i32 a1 6)) 63), bOr .u8 128 (bAnd .u8 (wu8 a1) 63)] : List Int)).length) cp20)]) (by kernel_rfl) ?_
            refine OpsT.done ?_
            refine Qn.then ?_
            refine CodT.ret ?_
            refine Qn.block_ret ?_
            have hI := hI.mono (pick2 _ _ _)
            have hI := hI.drop
            have e := someS h0
            subst e
            refine Qn.keep [4] (S' := [(4, .slice A19 ((a0 ++ ([bOr .u8 240 (wu8 (bShr .i32 a1 18)), bOr .u8 128 (bAnd .u8 (wu8 (bShr .i32 a1 12)) 63), bOr .u8 128 (bAnd .u8 (wu8 (bShr .i32 a1 6)) 63), bOr .u8 128 (bAnd .u8 (wu8 a1) 63)] : List Int)).length) cp20)]) (by kernel_rfl) ?_
            exact post_ret (v := .slice A19 ((a0 ++ ([bOr .u8 240 (wu8 (bShr .i32 a1 18)), bOr .u8 128 (bAnd .u8 (wu8 (bShr .i32 a1 12)) 63), bOr .u8 128 (bAnd .u8 (wu8 (bShr .i32 a1 6)) 63), bOr .u8 128 (bAnd .u8 (wu8 a1) 63)] : List Int)).length) cp20) (fun a ha => RunRes.run (vs := [.slice A19 ((a0 ++ ([bOr .u8 240 (wu8 (bShr .i32 a1 18)), bOr .u8 128 (bAnd .u8 (wu8 (bShr .i32 a1 12)) 63), bOr .u8 128 (bAnd .u8 (wu8 (bShr .i32 a1 6)) 63), bOr .u8 128 (bAnd .u8 (wu8 a1) 63)] : List Int)).length) cp20]) (.tmp (t := 4) (by kernel_rfl) .nil) ha (by kernel_rfl)) ⟨A19, cp20, rfl, hI⟩
          · rw [if_neg hb16] at h0
            refine CodT.no' (b := x14) (by kernel_rfl) (by simpa using hb16) ?_
            refine CodT.seq ?_
            refine CodT.regionL [0, 1, 2, 3] (by kernel_rfl) ?_
            refine OpsT.pures (r := [1, 2, 3]) [0] [8] (S' := [(8, .slice A_a0 a0.length c_a0)]) (by kernel_rfl) ?_
            refine OpsT.cons (Does.buildSlice (en := (cI .u8)) (d := 9) (n := 3) (T := 41) (ps := [(0, .int .u8 239), (1, .int .u8 191), (2, .int .u8 189)]) ([239, 191, 189] : List Int) (by kernel_rfl) Go.Proofs.Try.underlying41 ty5 (by kernel_rfl) (by kernel_rfl) (by kernel_rfl) (by kernel_rfl) (len_all (fun _ => rfl)) hI ?_)
            intro b21 w hI
            obtain ⟨hg22, h0⟩ := guardS h0
            have hI := hI.mono (pick2 _ _ _)
            refine OpsT.cons (Does.append (d := 10) (t := 41) (tx := 41) (ty := 41) (ys := a0) (zs := ([239, 191, 189] : List Int)) (x := .slice (some ⟨b21, 0, none⟩) (([239, 191, 189] : List Int).length) 3) (by kernel_rfl) Go.Proofs.Try.underlying41 ty5 (by kernel_rfl) hI (src_own Go.Proofs.Try.underlying41 (hI.mono (pick2 _ _ _)) (one_flat _ (fun _ => rfl))) (ownS_facts (hI.mono (pick2 _ _ _))).2.2 (by unfold LIM at hg22; omega) hg22 ?_)
            intro A23 cp24 w hI
            refine OpsT.pures (r := []) [3] [4] (S' := [(4, .slice A23 ((a0 ++ ([239, 191, 189] : List Int)).length) cp24)]) (by kernel_rfl) ?_
            refine OpsT.done ?_
            refine Qn.then ?_
            refine CodT.ret ?_
            refine Qn.block_ret ?_
            have hI := hI.mono (pick2 _ _ _)
            have hI := hI.drop
            have e := someS h0
            subst e
            refine Qn.keep [4] (S' := [(4, .slice A23 ((a0 ++ ([239, 191, 189] : List Int)).length) cp24)]) (by kernel_rfl) ?_
            exact post_ret (v := .slice A23 ((a0 ++ ([239, 191, 189] : List Int)).length) cp24) (fun a ha => RunRes.run (vs := [.slice A23 ((a0 ++ ([239, 191, 189] : List Int)).length) cp24]) (.tmp (t := 4) (by kernel_rfl) .nil) ha (by kernel_rfl)) ⟨A23, cp24, rfl, hI⟩
set_option maxRecDepth 100000 in
set_option maxHeartbeats 4000000 in
/-- unicode/utf8.AppendRune -/
theorem c77 (w0 w : World) (Z : Hp) (A : HP)  (A_a0 : Option Addr) (c_a0 : Nat) (a0 : (List Int)) (a1 : Int) (hI : Inv w0 Z w (star (ownS 5 (cI .u8) 1 A_a0 c_a0 a0) A)) (r : (List Int)) (h0 : utf8_AppendRune a0 a1 = some r) :
    Calls prog 77 #[.slice A_a0 a0.length c_a0, .int .i32 a1] w (fun e w' => ∃ (A1 : Option Addr) (c1 : Nat), e = .returned (.slice A1 r.length c1) ∧ Inv w0 Z w' (star (ownS 5 (cI .u8) 1 A1 c1 r) A)) := by
  have e4 := calls_intro (R := (fun e w' => ∃ (A1 : Option Addr) (c1 : Nat), e = .returned (.slice A1 r.length c1) ∧ Inv w0 Z w' (star (ownS 5 (cI .u8) 1 A1 c1 r) A))) (w := w) (args := [.slice A_a0 a0.length c_a0, .int .i32 a1]) (fn := Go.Proofs.Try.f77) 16 Go.Proofs.Try.func77 (by rfl) Go.Proofs.Try.ntmps77 (by kernel_rfl)
  refine e4 ?_
  clear e4
  unfold utf8_AppendRune at h0
  refine CodT.seq ?_
  refine CodT.regionL [0] (by kernel_rfl) ?_
  refine OpsT.pures (r := []) [0] [0, 1] (S' := [(0, .slice A_a0 a0.length c_a0), (1, .int .i32 a1)]) (by kernel_rfl) ?_
  refine OpsT.done ?_
  refine Qn.then ?_
  refine CodT.seq ?_
  refine CodT.seq ?_
  refine CodT.regionL [0, 1, 2] (by kernel_rfl) ?_
  refine OpsT.pures (r := []) [0, 1, 2] [0, 1, 7] (S' := [(0, .slice A_a0 a0.length c_a0), (1, .int .i32 a1), (7, .bool (decide ((wu32 a1) ≤ 127)))]) (by kernel_rfl) ?_
  refine OpsT.done ?_
  refine Qn.then ?_
  by_cases hb1 : (decide ((wu32 a1) ≤ 127)) = true
  · rw [if_pos hb1] at h0
    refine CodT.yes' (b := decide ((wu32 a1) ≤ 127)) (by kernel_rfl) hb1 ?_
    refine CodT.seq ?_
    refine CodT.regionL [0, 1, 2, 3, 4, 5] (by kernel_rfl) ?_
    refine OpsT.pures (r := [3, 4, 5]) [0, 1, 2] [8, 10] (S' := [(8, .slice A_a0 a0.length c_a0), (10, .int .u8 (wu8 a1))]) (by kernel_rfl) ?_
    refine OpsT.cons (Does.buildSlice (en := (cI .u8)) (d := 11) (n := 1) (T := 41) (ps := [(0, .int .u8 (wu8 a1))]) ([wu8 a1] : List Int) (by kernel_rfl) Go.Proofs.Try.underlying41 ty5 (by kernel_rfl) (by kernel_rfl) (by kernel_rfl) (by kernel_rfl) (len_all (fun _ => rfl)) hI ?_)
    intro b2 w hI
    obtain ⟨hg3, h0⟩ := guardS h0
    have hI := hI.mono (pick2 _ _ _)
    refine OpsT.cons (Does.append (d := 12) (t := 41) (tx := 41) (ty := 41) (ys := a0) (zs := ([wu8 a1] : List Int)) (x := .slice (some ⟨b2, 0, none⟩) (([wu8 a1] : List Int).length) 1) (by kernel_rfl) Go.Proofs.Try.underlying41 ty5 (by kernel_rfl) hI (src_own Go.Proofs.Try.underlying41 (hI.mono (pick2 _ _ _)) (one_flat _ (fun _ => rfl))) (ownS_facts (hI.mono (pick2 _ _ _))).2.2 (by unfold LIM at hg3; omega) hg3 ?_)
    intro A4 cp5 w hI
    refine OpsT.pures (r := []) [5] [4] (S' := [(4, .slice A4 ((a0 ++ ([wu8 a1] : List Int)).length) cp5)]) (by kernel_rfl) ?_
    refine OpsT.done ?_
    refine Qn.then ?_
    refine CodT.ret ?_
    refine Qn.ret_then ?_
    have hI := hI.mono (pick2 _ _ _)
    have hI := hI.drop
    have e := someS h0
    subst e
    refine Qn.keep [4] (S' := [(4, .slice A4 ((a0 ++ ([wu8 a1] : List Int)).length) cp5)]) (by kernel_rfl) ?_
    exact post_ret (v := .slice A4 ((a0 ++ ([wu8 a1] : List Int)).length) cp5) (fun a ha => RunRes.run (vs := [.slice A4 ((a0 ++ ([wu8 a1] : List Int)).length) cp5]) (.tmp (t := 4) (by kernel_rfl) .nil) ha (by kernel_rfl)) ⟨A4, cp5, rfl, hI⟩
  · rw [if_neg hb1] at h0
    refine CodT.no' (b := decide ((wu32 a1) ≤ 127)) (by kernel_rfl) (by simpa using hb1) ?_
    refine CodT.skip ?_
    refine Qn.then ?_
    refine CodT.seq ?_
    refine CodT.regionL [0, 1, 2, 3] (by kernel_rfl) ?_
    refine OpsT.pures (r := [2, 3]) [0, 1] [13, 14] (S' := [(13, .slice A_a0 a0.length c_a0), (14, .int .i32 a1)]) (by kernel_rfl) ?_
    obtain ⟨y7, hc6, h0⟩ := bindS h0
    try dsimp only at h0
    refine OpsT.cons (Does.call (d := some 15) (n := 80) (vs := [.slice A_a0 a0.length c_a0, .int .i32 a1]) (by kernel_rfl) en80 (c80 w0 w _ _ A_a0 c_a0 a0 a1 hI _ hc6) ?_)
    rintro e w ⟨A8, cp9, rfl, hI⟩
    refine ⟨_, rfl, ?_⟩
    refine OpsT.pures (r := []) [3] [4] (S' := [(4, .slice A8 y7.length cp9)]) (by kernel_rfl) ?_
    refine OpsT.done ?_
    refine Qn.then ?_
    refine CodT.ret ?_
    have e := someS h0
    subst e
    refine Qn.keep [4] (S' := [(4, .slice A8 y7.length cp9)]) (by kernel_rfl) ?_
    exact post_ret (v := .slice A8 y7.length cp9) (fun a ha => RunRes.run (vs := [.slice A8 y7.length cp9]) (.tmp (t := 4) (by kernel_rfl) .nil) ha (by kernel_rfl)) ⟨A8, cp9, rfl, hI⟩
set_option maxRecDepth 100000 in
set_option maxHeartbeats 4000000 in
/-- (*strings.Builder).WriteRune -/
theorem c72 (w0 w : World) (Z : Hp) (A : HP)  (b_a0 : Nat) (a0_v_addr : Bool) (A_a0_v_buf : Option Addr) (c_a0_v_buf : Nat) (a0_v_buf : (List Int)) (a1 : Int) (hI : Inv w0 Z w (star (pt b_a0 (.cells ((([selfP b_a0 a0_v_addr, .slice A_a0_v_buf a0_v_buf.length c_a0_v_buf] : List Value))).toArray 107 (0, 0))) (star (ownS 5 (cI .u8) 1 A_a0_v_buf c_a0_v_buf a0_v_buf) A))) (r : (Int × Dyn109 × Bool × (List Int))) (h0 : strings_Builder_WriteRune a0_v_addr a0_v_buf a1 = some r) :
    Calls prog 72 #[.pointer (some ⟨b_a0, 0, none⟩), .int .i32 a1] w (fun e w' => ∃ (A1 : Option Addr) (c1 : Nat), e = .returned (.tuple #[.int .i64 r.1, dynV109 r.2.1]) ∧ Inv w0 Z w' (star (pt b_a0 (.cells ((([selfP b_a0 r.2.2.1, .slice A1 r.2.2.2.length c1] : List Value))).toArray 107 (0, 0))) (star (ownS 5 (cI .u8) 1 A1 c1 r.2.2.2) A))) := by
  have e4 := calls_intro (R := (fun e w' => ∃ (A1 : Option Addr) (c1 : Nat), e = .returned (.tuple #[.int .i64 r.1, dynV109 r.2.1]) ∧ Inv w0 Z w' (star (pt b_a0 (.cells ((([selfP b_a0 r.2.2.1, .slice A1 r.2.2.2.length c1] : List Value))).toArray 107 (0, 0))) (star (ownS 5 (cI .u8) 1 A1 c1 r.2.2.2) A)))) (w := w) (args := [.pointer (some ⟨b_a0, 0, none⟩), .int .i32 a1]) (fn := Go.Proofs.Try.f72) 30 Go.Proofs.Try.func72 (by rfl) Go.Proofs.Try.ntmps72 (by kernel_rfl)
  refine e4 ?_
  clear e4
  unfold strings_Builder_WriteRune at h0
  refine CodT.seq ?_
  refine CodT.regionL [0, 1] (by kernel_rfl) ?_
  refine OpsT.pures (r := []) [0, 1] [0, 1] (S' := [(0, .pointer (some ⟨b_a0, 0, none⟩)), (1, .int .i32 a1)]) (by kernel_rfl) ?_
  refine OpsT.done ?_
  refine Qn.then ?_
  refine CodT.seq ?_
  refine CodT.regionL [0, 1] (by kernel_rfl) ?_
  refine OpsT.pures (r := [1]) [0] [0, 1, 7] (S' := [(0, .pointer (some ⟨b_a0, 0, none⟩)), (1, .int .i32 a1), (7, .pointer (some ⟨b_a0, 0, none⟩))]) (by kernel_rfl) ?_
  have hI := hI.mono (pick2 _ _ _)
  have hI := hI.mono (pick2 _ _ _)
  obtain ⟨⟨y2, y3⟩, hc1, h0⟩ := bindS h0
  try dsimp only at h0
  refine OpsT.cons (Does.call (d := some 8) (n := 76) (vs := [.pointer (some ⟨b_a0, 0, none⟩)]) (by kernel_rfl) en76 (c76 w0 w _ _ b_a0 a0_v_addr A_a0_v_buf c_a0_v_buf a0_v_buf hI _ hc1) ?_)
  rintro e w ⟨A4, cp5, rfl, hI⟩
  refine ⟨_, rfl, ?_⟩
  refine OpsT.done ?_
  refine Qn.then ?_
  refine CodT.seq ?_
  refine CodT.regionL [0, 1, 2, 3, 4, 5] (by kernel_rfl) ?_
  refine OpsT.pures (r := [3, 4, 5]) [0, 1, 2] [0, 1, 11] (S' := [(0, .pointer (some ⟨b_a0, 0, none⟩)), (1, .int .i32 a1), (11, .pointer (some ⟨b_a0, 1, none⟩))]) (by kernel_rfl) ?_
  refine OpsT.cons (Does.yi (Yl.load (d := 12) (T := 41) (v := .slice A4 y3.length cp5) (by kernel_rfl) (ldB ty41 (l := (([selfP b_a0 y2, .slice A4 y3.length cp5] : List Value))) (o := 1) (v := .slice A4 y3.length cp5) (ent_refl _) (by kernel_rfl))) hI ?_)
  refine OpsT.pures (r := []) [4, 5] [0, 1, 6] (S' := [(0, .pointer (some ⟨b_a0, 0, none⟩)), (1, .int .i32 a1), (6, .int .i64 (y3.length : Int))]) (by kernel_rfl) ?_
  refine OpsT.done ?_
  refine Qn.then ?_
  refine CodT.seq ?_
  refine CodT.regionL [0, 1, 2, 3, 4, 5, 6, 7, 8, 9] (by kernel_rfl) ?_
  refine OpsT.pures (r := [4, 5, 6, 7, 8, 9]) [0, 1, 2, 3] [0, 1, 6, 14, 17] (S' := [(0, .pointer (some ⟨b_a0, 0, none⟩)), (1, .int .i32 a1), (6, .int .i64 (y3.length : Int)), (14, .pointer (some ⟨b_a0, 0, none⟩)), (17, .pointer (some ⟨b_a0, 1, none⟩))]) (by kernel_rfl) ?_
  refine OpsT.cons (Does.yi (Yl.load (d := 18) (T := 41) (v := .slice A4 y3.length cp5) (by kernel_rfl) (ldB ty41 (l := (([selfP b_a0 y2, .slice A4 y3.length cp5] : List Value))) (o := 1) (v := .slice A4 y3.length cp5) (ent_refl _) (by kernel_rfl))) hI ?_)
  refine OpsT.pures (r := [6, 7, 8, 9]) [5] [0, 6, 14, 18, 19] (S' := [(0, .pointer (some ⟨b_a0, 0, none⟩)), (6, .int .i64 (y3.length : Int)), (14, .pointer (some ⟨b_a0, 0, none⟩)), (18, .slice A4 y3.length cp5), (19, .int .i32 a1)]) (by kernel_rfl) ?_
  have hI := hI.mono (pick2 _ _ _)
  obtain ⟨y7, hc6, h0⟩ := bindS h0
  try dsimp only at h0
  refine OpsT.cons (Does.call (d := some 20) (n := 77) (vs := [.slice A4 y3.length cp5, .int .i32 a1]) (by kernel_rfl) en77 (c77 w0 w _ _ A4 cp5 y3 a1 hI _ hc6) ?_)
  rintro e w ⟨A8, cp9, rfl, hI⟩
  refine ⟨_, rfl, ?_⟩
  refine OpsT.pures (r := [9]) [7, 8] [0, 6, 20, 22] (S' := [(0, .pointer (some ⟨b_a0, 0, none⟩)), (6, .int .i64 (y3.length : Int)), (20, .slice A8 y7.length cp9), (22, .pointer (some ⟨b_a0, 1, none⟩))]) (by kernel_rfl) ?_
  have hI := hI.mono (pick2 _ _ _)
  refine OpsT.cons (Does.storeLit (T := 41) (b := b_a0) (o := 1) (v := .slice A8 y7.length cp9) (l := (([selfP b_a0 y2, .slice A4 y3.length cp5] : List Value))) (vs := ([.slice A8 y7.length cp9] : List Value)) (L' := (([selfP b_a0 y2, .slice A8 y7.length cp9] : List Value))) (by kernel_rfl) ty41 hI (by kernel_rfl) (by kernel_rfl) (by kernel_rfl) (by kernel_rfl) (by kernel_rfl) ?_)
  intro w hI
  refine OpsT.done ?_
  refine Qn.then ?_
  refine CodT.seq ?_
  refine CodT.regionL [0, 1, 2, 3, 4, 5, 6, 7, 8] (by kernel_rfl) ?_
  refine OpsT.pures (r := [3, 4, 5, 6, 7, 8]) [0, 1, 2] [6, 25] (S' := [(6, .int .i64 (y3.length : Int)), (25, .pointer (some ⟨b_a0, 1, none⟩))]) (by kernel_rfl) ?_
  refine OpsT.cons (Does.yi (Yl.load (d := 26) (T := 41) (v := .slice A8 y7.length cp9) (by kernel_rfl) (ldB ty41 (l := (([selfP b_a0 y2, .slice A8 y7.length cp9] : List Value))) (o := 1) (v := .slice A8 y7.length cp9) (ent_refl _) (by kernel_rfl))) hI ?_)
  refine OpsT.pures (r := []) [4, 5, 6, 7, 8] [4, 5] (S' := [(4, .int .i64 (wi64 ((y7.length : Int) - (y3.length : Int)))), (5, .nilIface)]) (by kernel_rfl) ?_
  refine OpsT.done ?_
  refine Qn.then ?_
  refine CodT.ret ?_
  have e := someS h0
  subst e
  refine Qn.keep [4, 5] (S' := [(4, .int .i64 (wi64 ((y7.length : Int) - (y3.length : Int)))), (5, .nilIface)]) (by kernel_rfl) ?_
  exact post_ret (v := .tuple #[.int .i64 (wi64 ((y7.length : Int) - (y3.length : Int))), .nilIface]) (fun a ha => RunRes.run (vs := [.int .i64 (wi64 ((y7.length : Int) - (y3.length : Int))), .nilIface]) (.tmp (t := 4) (by kernel_rfl) (.tmp (t := 5) (by kernel_rfl) .nil)) ha (by kernel_rfl)) ⟨A8, cp9, rfl, hI⟩
set_option maxRecDepth 100000 in
set_option maxHeartbeats 4000000 in
/-- (*strings.Builder).Write -/
theorem c73 (w0 w : World) (Z : Hp) (A : HP)  (b_a0 : Nat) (a0_v_addr : Bool) (A_a0_v_buf : Option Addr) (c_a0_v_buf : Nat) (a0_v_buf : (List Int)) (A_a1 : Option Addr) (c_a1 : Nat) (a1 : (List Int)) (hr_a1 : RdS Z (cI .u8) 1 A_a1 c_a1 a1) (hI : Inv w0 Z w (star (pt b_a0 (.cells ((([selfP b_a0 a0_v_addr, .slice A_a0_v_buf a0_v_buf.length c_a0_v_buf] : List Value))).toArray 107 (0, 0))) (star (ownS 5 (cI .u8) 1 A_a0_v_buf c_a0_v_buf a0_v_buf) A))) (r : (Int × Dyn109 × Bool × (List Int))) (h0 : strings_Builder_Write a0_v_addr a0_v_buf a1 = some r) :
    Calls prog 73 #[.pointer (some ⟨b_a0, 0, none⟩), .slice A_a1 a1.length c_a1] w (fun e w' => ∃ (A1 : Option Addr) (c1 : Nat), e = .returned (.tuple #[.int .i64 r.1, dynV109 r.2.1]) ∧ Inv w0 Z w' (star (pt b_a0 (.cells ((([selfP b_a0 r.2.2.1, .slice A1 r.2.2.2.length c1] : List Value))).toArray 107 (0, 0))) (star (ownS 5 (cI .u8) 1 A1 c1 r.2.2.2) A))) := by
  have e4 := calls_intro (R := (fun e w' => ∃ (A1 : Option Addr) (c1 : Nat), e = .returned (.tuple #[.int .i64 r.1, dynV109 r.2.1]) ∧ Inv w0 Z w' (star (pt b_a0 (.cells ((([selfP b_a0 r.2.2.1, .slice A1 r.2.2.2.length c1] : List Value))).toArray 107 (0, 0))) (star (ownS 5 (cI .u8) 1 A1 c1 r.2.2.2) A)))) (w := w) (args := [.pointer (some ⟨b_a0, 0, none⟩), .slice A_a1 a1.length c_a1]) (fn := Go.Proofs.Try.f73) 19 Go.Proofs.Try.func73 (by rfl) Go.Proofs.Try.ntmps73 (by kernel_rfl)
  refine e4 ?_
  clear e4
  unfold strings_Builder_Write at h0
  refine CodT.seq ?_
  refine CodT.regionL [0, 1] (by kernel_rfl) ?_
  refine OpsT.pures (r := []) [0, 1] [0, 1] (S' := [(0, .pointer (some ⟨b_a0, 0, none⟩)), (1, .slice A_a1 a1.length c_a1)]) (by kernel_rfl) ?_
  refine OpsT.done ?_
  refine Qn.then ?_
  refine CodT.seq ?_
  refine CodT.regionL [0, 1] (by kernel_rfl) ?_
  refine OpsT.pures (r := [1]) [0] [0, 1, 6] (S' := [(0, .pointer (some ⟨b_a0, 0, none⟩)), (1, .slice A_a1 a1.length c_a1), (6, .pointer (some ⟨b_a0, 0, none⟩))]) (by kernel_rfl) ?_
  have hI := hI.mono (pick2 _ _ _)
  have hI := hI.mono (pick2 _ _ _)
  obtain ⟨⟨y2, y3⟩, hc1, h0⟩ := bindS h0
  try dsimp only at h0
  refine OpsT.cons (Does.call (d := some 7) (n := 76) (vs := [.pointer (some ⟨b_a0, 0, none⟩)]) (by kernel_rfl) en76 (c76 w0 w _ _ b_a0 a0_v_addr A_a0_v_buf c_a0_v_buf a0_v_buf hI _ hc1) ?_)
  rintro e w ⟨A4, cp5, rfl, hI⟩
  refine ⟨_, rfl, ?_⟩
  refine OpsT.done ?_
  refine Qn.then ?_
  refine CodT.seq ?_
  refine CodT.regionL [0, 1, 2, 3, 4, 5, 6, 7, 8, 9] (by kernel_rfl) ?_
  refine OpsT.pures (r := [4, 5, 6, 7, 8, 9]) [0, 1, 2, 3] [1, 8, 11] (S' := [(1, .slice A_a1 a1.length c_a1), (8, .pointer (some ⟨b_a0, 0, none⟩)), (11, .pointer (some ⟨b_a0, 1, none⟩))]) (by kernel_rfl) ?_
  refine OpsT.cons (Does.yi (Yl.load (d := 12) (T := 41) (v := .slice A4 y3.length cp5) (by kernel_rfl) (ldB ty41 (l := (([selfP b_a0 y2, .slice A4 y3.length cp5] : List Value))) (o := 1) (v := .slice A4 y3.length cp5) (ent_refl _) (by kernel_rfl))) hI ?_)
  refine OpsT.pures (r := [6, 7, 8, 9]) [5] [1, 8, 12, 13] (S' := [(1, .slice A_a1 a1.length c_a1), (8, .pointer (some ⟨b_a0, 0, none⟩)), (12, .slice A4 y3.length cp5), (13, .slice A_a1 a1.length c_a1)]) (by kernel_rfl) ?_
  obtain ⟨hg6, h0⟩ := guardS h0
  have hI := hI.mono (pick2 _ _ _)
  refine OpsT.cons (Does.append (d := 14) (t := 41) (tx := 41) (ty := 41) (ys := y3) (zs := a1) (x := .slice A_a1 a1.length c_a1) (by kernel_rfl) Go.Proofs.Try.underlying41 ty5 (by kernel_rfl) hI (src_rd Go.Proofs.Try.underlying41 hI hr_a1 (one_flat _ (fun _ => rfl))) hr_a1.2.2.1 (by unfold LIM at hg6; omega) hg6 ?_)
  intro A7 cp8 w hI
  refine OpsT.pures (r := [9]) [7, 8] [1, 14, 16] (S' := [(1, .slice A_a1 a1.length c_a1), (14, .slice A7 ((y3 ++ a1).length) cp8), (16, .pointer (some ⟨b_a0, 1, none⟩))]) (by kernel_rfl) ?_
  have hI := hI.mono (pick2 _ _ _)
  refine OpsT.cons (Does.storeLit (T := 41) (b := b_a0) (o := 1) (v := .slice A7 ((y3 ++ a1).length) cp8) (l := (([selfP b_a0 y2, .slice A4 y3.length cp5] : List Value))) (vs := ([.slice A7 ((y3 ++ a1).length) cp8] : List Value)) (L' := (([selfP b_a0 y2, .slice A7 ((y3 ++ a1).length) cp8] : List Value))) (by kernel_rfl) ty41 hI (by kernel_rfl) (by kernel_rfl) (by kernel_rfl) (by kernel_rfl) (by kernel_rfl) ?_)
  intro w hI
  refine OpsT.done ?_
  refine Qn.then ?_
  refine CodT.seq ?_
  refine CodT.regionL [0, 1, 2, 3] (by kernel_rfl) ?_
  refine OpsT.pures (r := []) [0, 1, 2, 3] [4, 5] (S' := [(4, .int .i64 (a1.length : Int)), (5, .nilIface)]) (by kernel_rfl) ?_
  refine OpsT.done ?_
  refine Qn.then ?_
  refine CodT.ret ?_
  have e := someS h0
  subst e
  refine Qn.keep [4, 5] (S' := [(4, .int .i64 (a1.length : Int)), (5, .nilIface)]) (by kernel_rfl) ?_
  exact post_ret (v := .tuple #[.int .i64 (a1.length : Int), .nilIface]) (fun a ha => RunRes.run (vs := [.int .i64 (a1.length : Int), .nilIface]) (.tmp (t := 4) (by kernel_rfl) (.tmp (t := 5) (by kernel_rfl) .nil)) ha (by kernel_rfl)) ⟨A7, cp8, rfl, hI⟩
set_option maxRecDepth 100000 in
set_option maxHeartbeats 4000000 in
/-- cenotaph/name.broken -/
theorem c74 (w0 w : World) (Z : Hp) (A : HP) (hI : Inv w0 Z w A) (a0 : ByteArray) (a1 : Int) (a2 : Int) (r : Bool) (h0 : name_broken a0 a1 a2 = some r) :
    Calls prog 74 #[.string a0, .int .i64 a1, .int .i32 a2] w (fun e w' => e = .returned (.bool r) ∧ Inv w0 Z w' A) := by
  have e4 := calls_intro (R := (fun e w' => e = .returned (.bool r) ∧ Inv w0 Z w' A)) (w := w) (args := [.string a0, .int .i64 a1, .int .i32 a2]) (fn := Go.Proofs.Try.f74) 20 Go.Proofs.Try.func74 (by rfl) Go.Proofs.Try.ntmps74 (by kernel_rfl)
  refine e4 ?_
  clear e4
  unfold name_broken at h0
  refine CodT.seq ?_
  refine CodT.regionL [0] (by kernel_rfl) ?_
  refine OpsT.pures (r := []) [0] [0, 1, 2] (S' := [(0, .string a0), (1, .int .i64 a1), (2, .int .i32 a2)]) (by kernel_rfl) ?_
  refine OpsT.done ?_
  refine Qn.then ?_
  refine CodT.seq ?_
  refine CodT.seq ?_
  refine CodT.regionL [0, 1] (by kernel_rfl) ?_
  refine OpsT.pures (r := []) [0, 1] [0, 1, 10] (S' := [(0, .string a0), (1, .int .i64 a1), (10, .bool (a2 != 65533))]) (by kernel_rfl) ?_
  refine OpsT.done ?_
  refine Qn.then ?_
  by_cases hb1 : (a2 != 65533) = true
  · rw [if_pos hb1] at h0
    refine CodT.yes' (b := a2 != 65533) (by kernel_rfl) hb1 ?_
    refine CodT.seq ?_
    refine CodT.regionL [0] (by kernel_rfl) ?_
    refine OpsT.pures (r := []) [0] [6] (S' := [(6, .bool false)]) (by kernel_rfl) ?_
    refine OpsT.done ?_
    refine Qn.then ?_
    refine CodT.ret ?_
    refine Qn.ret_then ?_
    have e := someS h0
    subst e
    refine Qn.keep [6] (S' := [(6, .bool false)]) (by kernel_rfl) ?_
    exact post_ret (v := .bool false) (fun a ha => RunRes.run (vs := [.bool false]) (.tmp (t := 6) (by kernel_rfl) .nil) ha (by kernel_rfl)) ⟨rfl, hI⟩
  · rw [if_neg hb1] at h0
    refine CodT.no' (b := a2 != 65533) (by kernel_rfl) (by simpa using hb1) ?_
    refine CodT.skip ?_
    refine Qn.then ?_
    refine CodT.seq ?_
    refine CodT.regionL [0, 1, 2, 3, 4, 5, 6, 7, 8] (by kernel_rfl) ?_
    refine OpsT.pures (r := [2, 3, 4, 5, 6, 7, 8]) [0, 1] [12, 13] (S' := [(12, .string a0), (13, .int .i64 a1)]) (by kernel_rfl) ?_
    obtain ⟨hg2, h0⟩ := guardS h0
    refine OpsT.cons (Does.yi (Yl.sliceStr10 (d := 14) (T := 9) (s := a0) (lo := a1) (by kernel_rfl) Go.Proofs.Try.underlying9 hg2) hI ?_)
    cases h0
set_option maxRecDepth 100000 in
set_option maxHeartbeats 4000000 in
/-- (*strings.Builder).String -/
theorem c75 (w0 w : World) (Z : Hp) (A : HP)  (b_a0 : Nat) (a0_v_addr : Bool) (A_a0_v_buf : Option Addr) (c_a0_v_buf : Nat) (a0_v_buf : (List Int)) (hI : Inv w0 Z w (star (pt b_a0 (.cells ((([selfP b_a0 a0_v_addr, .slice A_a0_v_buf a0_v_buf.length c_a0_v_buf] : List Value))).toArray 107 (0, 0))) (star (ownS 5 (cI .u8) 1 A_a0_v_buf c_a0_v_buf a0_v_buf) A))) (r : (ByteArray × Bool × (List Int))) (h0 : strings_Builder_String a0_v_addr a0_v_buf = some r) :
    Calls prog 75 #[.pointer (some ⟨b_a0, 0, none⟩)] w (fun e w' => ∃ (A1 : Option Addr) (c1 : Nat) (Z' : Hp), Z.le Z' ∧ e = .returned (.string r.1) ∧ RdS Z' (cI .u8) 1 A1 c1 r.2.2 ∧ Inv w0 Z' w' (star (pt b_a0 (.cells ((([selfP b_a0 r.2.1, .slice A1 r.2.2.length c1] : List Value))).toArray 107 (0, 0))) A)) := by
  have e4 := calls_intro (R := (fun e w' => ∃ (A1 : Option Addr) (c1 : Nat) (Z' : Hp), Z.le Z' ∧ e = .returned (.string r.1) ∧ RdS Z' (cI .u8) 1 A1 c1 r.2.2 ∧ Inv w0 Z' w' (star (pt b_a0 (.cells ((([selfP b_a0 r.2.1, .slice A1 r.2.2.length c1] : List Value))).toArray 107 (0, 0))) A))) (w := w) (args := [.pointer (some ⟨b_a0, 0, none⟩)]) (fn := Go.Proofs.Try.f75) 14 Go.Proofs.Try.func75 (by rfl) Go.Proofs.Try.ntmps75 (by kernel_rfl)
  refine e4 ?_
  clear e4
  unfold strings_Builder_String at h0
  refine CodT.seq ?_
  refine CodT.regionL [0] (by kernel_rfl) ?_
  refine OpsT.pures (r := []) [0] [0] (S' := [(0, .pointer (some ⟨b_a0, 0, none⟩))]) (by kernel_rfl) ?_
  refine OpsT.done ?_
  refine Qn.then ?_
  refine CodT.seq ?_
  refine CodT.drawI (n := 12) [10] (by kernel_rfl) (by kernel_rfl) hI ?_
  intro w hI
  refine GmT.p' 0 3 (.pointer (some ⟨b_a0, 0, none⟩)) (by kernel_rfl) (by kernel_rfl) ?_
  refine GmT.p' 1 4 (.pointer (some ⟨b_a0, 0, none⟩)) (by kernel_rfl) (by kernel_rfl) ?_
  refine GmT.p' 2 5 (.pointer (some ⟨b_a0, 1, none⟩)) (by kernel_rfl) (by kernel_rfl) ?_
  refine GmT.p' 5 8 (.pointer (some ⟨b_a0, 0, none⟩)) (by kernel_rfl) (by kernel_rfl) ?_
  refine GmT.p' 6 9 (.pointer (some ⟨b_a0, 0, none⟩)) (by kernel_rfl) (by kernel_rfl) ?_
  refine GmT.p' 7 10 (.pointer (some ⟨b_a0, 1, none⟩)) (by kernel_rfl) (by kernel_rfl) ?_
  refine GmT.r (i := 3) 3 (by kernel_rfl) (by kernel_rfl) (Yl.load (d := 6) (T := 41) (v := .slice A_a0_v_buf a0_v_buf.length c_a0_v_buf) (by kernel_rfl) (ldB ty41 (l := (([selfP b_a0 a0_v_addr, .slice A_a0_v_buf a0_v_buf.length c_a0_v_buf] : List Value))) (o := 1) (v := .slice A_a0_v_buf a0_v_buf.length c_a0_v_buf) (ent_refl _) (by kernel_rfl))) hI ?_
  refine GmT.r (i := 8) 3 (by kernel_rfl) (by kernel_rfl) (Yl.load (d := 11) (T := 41) (v := .slice A_a0_v_buf a0_v_buf.length c_a0_v_buf) (by kernel_rfl) (ldB ty41 (l := (([selfP b_a0 a0_v_addr, .slice A_a0_v_buf a0_v_buf.length c_a0_v_buf] : List Value))) (o := 1) (v := .slice A_a0_v_buf a0_v_buf.length c_a0_v_buf) (ent_refl _) (by kernel_rfl))) hI ?_
  refine GmT.p' 9 12 (.int .i64 (a0_v_buf.length : Int)) (by kernel_rfl) (by kernel_rfl) ?_
  have hI := hI.mono (pick2 _ _ _)
  refine GmT.o (i := 4) (by kernel_rfl) (Does.sliceData (d := 7) (t := 41) (ty := 100) (ys := a0_v_buf) (by kernel_rfl) Go.Proofs.Try.underlying100 hI ?_)
  intro q1 w hq2 hI
  have hC := hI
  have hC := hC.mono (pick2 _ _ _)
  refine ⟨fun _ _ => hC, ?_⟩
  obtain ⟨hg3, h0⟩ := guardS h0
  refine GmT.o (i := 10) (by kernel_rfl) (Does.unsafeStr (e := 0) (d := 13) (t := 100) (it := 3) (ty := 9) (xs := a0_v_buf) (by kernel_rfl) Go.Proofs.Try.underlying100 (by kernel_rfl) hq2 (bytesOk_spec hg3) hI ?_)
  intro Z4 w hle5 hr6 hI
  refine ⟨fun h => absurd h (by decide), ?_⟩
  refine GmT.p' 11 2 (.string (strOfNums a0_v_buf)) (by kernel_rfl) (by kernel_rfl) ?_
  refine GmT.done (by kernel_rfl) ?_
  refine Qn.then ?_
  refine CodT.ret ?_
  have e := someS h0
  subst e
  refine Qn.keep [2] (S' := [(2, .string (strOfNums a0_v_buf))]) (by kernel_rfl) ?_
  exact post_ret (v := .string (strOfNums a0_v_buf)) (fun a ha => RunRes.run (vs := [.string (strOfNums a0_v_buf)]) (.tmp (t := 2) (by kernel_rfl) .nil) ha (by kernel_rfl)) ⟨A_a0_v_buf, c_a0_v_buf, Z4, hle5, rfl, hr6, hI⟩
set_option maxRecDepth 100000 in
set_option maxHeartbeats 4000000 in
/-- cenotaph/name.Quote -/
theorem c70 (w0 w : World) (Z : Hp) (A : HP) (hI : Inv w0 Z w A) (a0 : ByteArray) (r : ByteArray) (h0 : name_Quote a0 = some r) :
    Calls prog 70 #[.string a0] w (fun e w' => e = .returned (.string r) ∧ Inv w0 Z w' A) := by
  have e4 := calls_intro (R := (fun e w' => e = .returned (.string r) ∧ Inv w0 Z w' A)) (w := w) (args := [.string a0]) (fn := Go.Proofs.Try.f70) 57 Go.Proofs.Try.func70 (by rfl) Go.Proofs.Try.ntmps70 (by kernel_rfl)
  refine e4 ?_
  clear e4
  unfold name_Quote at h0
  refine CodT.seq ?_
  refine CodT.regionL [0] (by kernel_rfl) ?_
  refine OpsT.pures (r := []) [0] [0] (S' := [(0, .string a0)]) (by kernel_rfl) ?_
  refine OpsT.done ?_
  refine Qn.then ?_
  refine CodT.seq ?_
  refine CodT.regionL [0] (by kernel_rfl) ?_
  refine OpsT.cons (Does.allocL (d := 3) (T := 107) [selfP 0 false, .slice none 0 0] (by kernel_rfl) ty107 hI (by kernel_rfl) ?_)
  intro b1 w hI
  replace hI := hI.eqA (A' := (star (pt b1 (.cells ((([selfP b1 false, .slice none 0 0] : List Value))).toArray 107 (0, 0))) A)) rfl
  refine OpsT.done ?_
  refine Qn.then ?_
  refine CodT.seq ?_
  refine CodT.regionL [0] (by kernel_rfl) ?_
  have hI := ownS_nil (α := Int) hI 5 (cI .u8) 1
  have hI := hI.mono (pick2 _ _ _)
  obtain ⟨⟨y3, y4, y5⟩, hc2, h0⟩ := bindS h0
  try dsimp only at h0
  refine OpsT.cons (Does.call (d := some 6) (n := 71) (vs := [.pointer (some ⟨b1, 0, none⟩), .int .u8 34]) (by kernel_rfl) en71 (c71 w0 w _ _ b1 false none 0 ([] : List Int) 34 hI _ hc2) ?_)
  rintro e w ⟨A6, cp7, rfl, hI⟩
  refine ⟨_, rfl, ?_⟩
  refine OpsT.done ?_
  refine Qn.then ?_
  refine CodT.seq ?_
  refine CodT.seq ?_
  refine CodT.regionL [0, 1] (by kernel_rfl) ?_
  refine OpsT.pures (r := [1]) [0] [0, 3, 7] (S' := [(0, .string a0), (3, .pointer (some ⟨b1, 0, none⟩)), (7, .string a0)]) (by kernel_rfl) ?_
  refine OpsT.cons (Does.rangeStr (d := 8) (T := 9) (s := a0) (by kernel_rfl) Go.Proofs.Try.underlying9 hI ?_)
  intro b8 w hI
  refine OpsT.done ?_
  refine Qn.then ?_
  obtain ⟨r1, h1, h0⟩ := bindS h0
  refine CodT.meet1 (fun a w => ∃ (x11 : Bool) (x12 : (List Int)) (Z9 : Hp) (A13 : Option Addr) (cp14 : Nat), (x11, x12) = r1 ∧ Fr 57 [(3, .pointer (some ⟨b1, 0, none⟩))] a ∧ Inv w0 Z9 w (star (ownS 5 (cI .u8) 1 A13 cp14 x12) (star (pt b1 (.cells ((([selfP b1 x11, .slice A13 x12.length cp14] : List Value))).toArray 107 (0, 0))) A)) ∧ Z.le Z9) ?_ ?_
  ·
    refine CodT.block ?_
    have hI := hI.mono (pick2 _ _ _)
    have hI := hI.mono (pick3 _ _ _ _)
    have hI := hI.mono (pick3 _ _ _ _)
    refine (fun a ha => wp_loopN (fun k a w => ∃ (x17 : Nat) (x18 : Bool) (x19 : (List Int)) (Z15 : Hp) (A20 : Option Addr) (cp21 : Nat), name_Quote.l0 a0 k x17 x18 x19 = some r1 ∧ Fr 57 [(0, .string a0), (3, .pointer (some ⟨b1, 0, none⟩)), (8, .pointer (some ⟨b8, 0, none⟩))] a ∧ Inv w0 Z15 w (star (pt b8 (.stringIter a0 x17)) (star (ownS 5 (cI .u8) 1 A20 cp21 x19) (star (pt b1 (.cells ((([selfP b1 x18, .slice A20 x19.length cp21] : List Value))).toArray 107 (0, 0))) A))) ∧ Z.le Z15) ?_ FU a w ⟨0, y4, y5, Z, A6, cp7, h1, ha.keep [0, 3, 8] (by kernel_rfl), hI, (Hp.le_refl _)⟩)
    clear h1 hI
    rintro k a w ⟨x17, x18, x19, Z15, A20, cp21, h1, ha, hI, hle16⟩
    rcases k with _ | k
    · cases h1
    simp only [name_Quote.l0] at h1
    refine CodT.of ?_ ha
    refine CodT.seq ?_
    refine CodT.regionL [0, 1] (by kernel_rfl) ?_
    by_cases hb22 : x17 < a0.size
    · rw [if_pos hb22] at h1
      refine OpsT.cons (Does.nextStr (d := 9) (b := b8) (pos := x17) (s := a0) (by kernel_rfl) hI hb22 ?_)
      intro w hI
      refine OpsT.pures (r := []) [1] [0, 3, 8, 9, 10] (S' := [(0, .string a0), (3, .pointer (some ⟨b1, 0, none⟩)), (8, .pointer (some ⟨b8, 0, none⟩)), (9, .tuple #[.bool true, .int .i64 (x17 : Int), .int .i32 (runeAt a0 x17)]), (10, .bool true)]) (by kernel_rfl) ?_
      refine OpsT.done ?_
      refine Qn.then ?_
      refine CodT.seq ?_
      refine CodT.yes (by kernel_rfl) ?_
      refine CodT.skip ?_
      refine Qn.then ?_
      refine CodT.block ?_
      refine CodT.seq ?_
      refine CodT.regionL [0, 1, 2, 3] (by kernel_rfl) ?_
      refine OpsT.pures (r := []) [0, 1, 2, 3] [0, 3, 4, 5, 8] (S' := [(0, .string a0), (3, .pointer (some ⟨b1, 0, none⟩)), (4, .int .i64 (x17 : Int)), (5, .int .i32 (runeAt a0 x17)), (8, .pointer (some ⟨b8, 0, none⟩))]) (by kernel_rfl) ?_
      refine OpsT.done ?_
      refine Qn.then ?_
      refine CodT.block ?_
      obtain ⟨r2, h2, h1⟩ := bindS h1
      refine CodT.meet (fun a w => ∃ (x23 : Bool), x23 = r2 ∧ Fr 57 [(0, .string a0), (3, .pointer (some ⟨b1, 0, none⟩)), (4, .int .i64 (x17 : Int)), (5, .int .i32 (runeAt a0 x17)), (8, .pointer (some ⟨b8, 0, none⟩)), (15, .bool x23)] a ∧ Inv w0 Z15 w (star (pt b8 (.stringIter a0 (x17 + runeW a0 x17))) (star (pt b1 (.cells ((([selfP b1 x18, .slice A20 x19.length cp21] : List Value))).toArray 107 (0, 0))) (star (ownS 5 (cI .u8) 1 A20 cp21 x19) A)))) ?_ ?_
      ·
        refine CodT.regionL [0, 1, 2, 3, 4, 5, 6] (by kernel_rfl) ?_
        refine OpsT.pures (r := [3, 4, 5, 6]) [0, 1, 2] [0, 3, 4, 5, 8, 18] (S' := [(0, .string a0), (3, .pointer (some ⟨b1, 0, none⟩)), (4, .int .i64 (x17 : Int)), (5, .int .i32 (runeAt a0 x17)), (8, .pointer (some ⟨b8, 0, none⟩)), (18, .bool ((runeAt a0 x17) == 34))]) (by kernel_rfl) ?_
        by_cases hb24 : ((runeAt a0 x17) == 34) = true
        · rw [if_pos hb24] at h2
          refine OpsT.keep [0, 3, 4, 5, 8, 18] (S' := [(0, .string a0), (3, .pointer (some ⟨b1, 0, none⟩)), (4, .int .i64 (x17 : Int)), (5, .int .i32 (runeAt a0 x17)), (8, .pointer (some ⟨b8, 0, none⟩)), (18, .bool true)]) (by (try simp only [hb24]); kernel_rfl) ?_
          refine OpsT.pures (r := []) [3, 4, 5, 6] [0, 3, 4, 5, 8, 15] (S' := [(0, .string a0), (3, .pointer (some ⟨b1, 0, none⟩)), (4, .int .i64 (x17 : Int)), (5, .int .i32 (runeAt a0 x17)), (8, .pointer (some ⟨b8, 0, none⟩)), (15, .bool true)]) (by kernel_rfl) ?_
          refine OpsT.done ?_
          have hI := hI.mono (pick2 _ _ _)
          have hI := hI.mono (pick3 _ _ _ _)
          have hI := hI.mono (pick3 _ _ _ _)
          have e := someS h2
          subst e
          exact Qn.thenJ fun a ha => ⟨true, rfl, ha.keep [0, 3, 4, 5, 8, 15] (by kernel_rfl), hI⟩
        · rw [if_neg hb24] at h2
          have hb24 : ((runeAt a0 x17) == 34) = false := by simpa using hb24
          refine OpsT.keep [0, 3, 4, 5, 8, 18] (S' := [(0, .string a0), (3, .pointer (some ⟨b1, 0, none⟩)), (4, .int .i64 (x17 : Int)), (5, .int .i32 (runeAt a0 x17)), (8, .pointer (some ⟨b8, 0, none⟩)), (18, .bool false)]) (by (try simp only [hb24]); kernel_rfl) ?_
          refine OpsT.pures (r := []) [3, 4, 5, 6] [0, 3, 4, 5, 8, 15] (S' := [(0, .string a0), (3, .pointer (some ⟨b1, 0, none⟩)), (4, .int .i64 (x17 : Int)), (5, .int .i32 (runeAt a0 x17)), (8, .pointer (some ⟨b8, 0, none⟩)), (15, .bool ((runeAt a0 x17) == 92))]) (by kernel_rfl) ?_
          refine OpsT.done ?_
          have hI := hI.mono (pick2 _ _ _)
          have hI := hI.mono (pick3 _ _ _ _)
          have hI := hI.mono (pick3 _ _ _ _)
          have e := someS h2
          subst e
          exact Qn.thenJ fun a ha => ⟨(runeAt a0 x17) == 92, rfl, ha.keep [0, 3, 4, 5, 8, 15] (by kernel_rfl), hI⟩
      ·
        rintro a w ⟨x23, rfl, ha, hI⟩
        try dsimp only at h1
        refine CodT.of ?_ ha
        by_cases hb25 : x23 = true
        · rw [if_pos hb25] at h1
          refine CodT.yes' (b := x23) (by kernel_rfl) hb25 ?_
          refine CodT.seq ?_
          refine CodT.regionL [0] (by kernel_rfl) ?_
          have hI := hI.mono (pick3 _ _ _ _)
          have hI := hI.mono (pick3 _ _ _ _)
          obtain ⟨⟨y27, y28, y29⟩, hc26, h1⟩ := bindS h1
          try dsimp only at h1
          refine OpsT.cons (Does.call (d := some 22) (n := 71) (vs := [.pointer (some ⟨b1, 0, none⟩), .int .u8 92]) (by kernel_rfl) en71 (c71 w0 w _ _ b1 x18 A20 cp21 x19 92 hI _ hc26) ?_)
          rintro e w ⟨A30, cp31, rfl, hI⟩
          refine ⟨_, rfl, ?_⟩
          refine OpsT.done ?_
          refine Qn.then ?_
          refine CodT.regionL [0, 1] (by kernel_rfl) ?_
          refine OpsT.pures (r := [1]) [0] [0, 3, 8, 23] (S' := [(0, .string a0), (3, .pointer (some ⟨b1, 0, none⟩)), (8, .pointer (some ⟨b8, 0, none⟩)), (23, .int .i32 (runeAt a0 x17))]) (by kernel_rfl) ?_
          have hI := hI.mono (pick2 _ _ _)
          have hI := hI.mono (pick2 _ _ _)
          obtain ⟨⟨y33, y34, y35, y36⟩, hc32, h1⟩ := bindS h1
          try dsimp only at h1
          refine OpsT.cons (Does.call (d := some 24) (n := 72) (vs := [.pointer (some ⟨b1, 0, none⟩), .int .i32 (runeAt a0 x17)]) (by kernel_rfl) en72 (c72 w0 w _ _ b1 y28 A30 cp31 y29 (runeAt a0 x17) hI _ hc32) ?_)
          rintro e w ⟨A37, cp38, rfl, hI⟩
          refine ⟨_, rfl, ?_⟩
          refine OpsT.done ?_
          refine Qn.block_normal ?_
          refine Qn.block_normal ?_
          have hI := hI.mono (pick2 _ _ _)
          have hI := hI.mono (pick3 _ _ _ _)
          exact Qn.thenJ fun a ha => ⟨k, Nat.lt_succ_self k, x17 + runeW a0 x17, y35, y36, Z15, A37, cp38, h1, ha.keep [0, 3, 8] (by kernel_rfl), hI, hle16⟩
        · rw [if_neg hb25] at h1
          refine CodT.no' (b := x23) (by kernel_rfl) (by simpa using hb25) ?_
          refine CodT.seq ?_
          refine CodT.regionL [0, 1, 2] (by kernel_rfl) ?_
          refine OpsT.pures (r := []) [0, 1, 2] [0, 3, 4, 5, 8, 25] (S' := [(0, .string a0), (3, .pointer (some ⟨b1, 0, none⟩)), (4, .int .i64 (x17 : Int)), (5, .int .i32 (runeAt a0 x17)), (8, .pointer (some ⟨b8, 0, none⟩)), (25, .bool ((runeAt a0 x17) == 10))]) (by kernel_rfl) ?_
          refine OpsT.done ?_
          refine Qn.then ?_
          by_cases hb39 : ((runeAt a0 x17) == 10) = true
          · rw [if_pos hb39] at h1
            refine CodT.yes' (b := (runeAt a0 x17) == 10) (by kernel_rfl) hb39 ?_
            refine CodT.regionL [0, 1] (by kernel_rfl) ?_
            refine OpsT.cons (Does.buildSlice (en := (cI .u8)) (d := 28) (n := 2) (T := 41) (ps := [(0, .int .u8 92), (1, .int .u8 110)]) ([92, 110] : List Int) (by kernel_rfl) Go.Proofs.Try.underlying41 ty5 (by kernel_rfl) (by kernel_rfl) (by kernel_rfl) (by kernel_rfl) (len_all (fun _ => rfl)) hI ?_)
            intro b40 w hI
            obtain ⟨Z41, hle42, hr43, hI⟩ := ownS_freeze hI
            have hI := hI.mono (pick3 _ _ _ _)
            have hI := hI.mono (pick3 _ _ _ _)
            obtain ⟨⟨y45, y46, y47, y48⟩, hc44, h1⟩ := bindS h1
            try dsimp only at h1
            refine OpsT.cons (Does.call (d := some 29) (n := 73) (vs := [.pointer (some ⟨b1, 0, none⟩), .slice (some ⟨b40, 0, none⟩) (([92, 110] : List Int).length) 2]) (by kernel_rfl) en73 (c73 w0 w _ _ b1 x18 A20 cp21 x19 (some ⟨b40, 0, none⟩) 2 ([92, 110] : List Int) hr43 hI _ hc44) ?_)
            rintro e w ⟨A49, cp50, rfl, hI⟩
            refine ⟨_, rfl, ?_⟩
            refine OpsT.done ?_
            refine Qn.block_normal ?_
            refine Qn.block_normal ?_
            have hI := hI.mono (pick2 _ _ _)
            have hI := hI.mono (pick3 _ _ _ _)
            exact Qn.thenJ fun a ha => ⟨k, Nat.lt_succ_self k, x17 + runeW a0 x17, y47, y48, Z41, A49, cp50, h1, ha.keep [0, 3, 8] (by kernel_rfl), hI, (Hp.le_trans hle16 hle42)⟩
          · rw [if_neg hb39] at h1
            refine CodT.no' (b := (runeAt a0 x17) == 10) (by kernel_rfl) (by simpa using hb39) ?_
            obtain ⟨r2, h2, h1⟩ := bindS h1
            refine CodT.meet (fun a w => ∃ (x51 : Bool), x51 = r2 ∧ Fr 57 [(0, .string a0), (3, .pointer (some ⟨b1, 0, none⟩)), (4, .int .i64 (x17 : Int)), (5, .int .i32 (runeAt a0 x17)), (8, .pointer (some ⟨b8, 0, none⟩)), (30, .bool x51)] a ∧ Inv w0 Z15 w (star (pt b8 (.stringIter a0 (x17 + runeW a0 x17))) (star (pt b1 (.cells ((([selfP b1 x18, .slice A20 x19.length cp21] : List Value))).toArray 107 (0, 0))) (star (ownS 5 (cI .u8) 1 A20 cp21 x19) A)))) ?_ ?_
            ·
              refine CodT.regionL [0, 1, 2, 3, 4, 5, 6, 7, 8, 9, 10, 11, 12] (by kernel_rfl) ?_
              refine OpsT.pures (r := [3, 4, 5, 6, 7, 8, 9, 10, 11, 12]) [0, 1, 2] [0, 3, 4, 5, 8, 33] (S' := [(0, .string a0), (3, .pointer (some ⟨b1, 0, none⟩)), (4, .int .i64 (x17 : Int)), (5, .int .i32 (runeAt a0 x17)), (8, .pointer (some ⟨b8, 0, none⟩)), (33, .bool (decide ((runeAt a0 x17) < 32)))]) (by kernel_rfl) ?_
              by_cases hb52 : (decide ((runeAt a0 x17) < 32)) = true
              · rw [if_pos hb52] at h2
                refine OpsT.keep [0, 3, 4, 5, 8, 33] (S' := [(0, .string a0), (3, .pointer (some ⟨b1, 0, none⟩)), (4, .int .i64 (x17 : Int)), (5, .int .i32 (runeAt a0 x17)), (8, .pointer (some ⟨b8, 0, none⟩)), (33, .bool true)]) (by (try simp only [hb52]); kernel_rfl) ?_
                refine OpsT.pures (r := []) [3, 4, 5, 6, 7, 8, 9, 10, 11, 12] [0, 3, 4, 5, 8, 30] (S' := [(0, .string a0), (3, .pointer (some ⟨b1, 0, none⟩)), (4, .int .i64 (x17 : Int)), (5, .int .i32 (runeAt a0 x17)), (8, .pointer (some ⟨b8, 0, none⟩)), (30, .bool true)]) (by kernel_rfl) ?_
                refine OpsT.done ?_
                have e := someS h2
                subst e
                exact Qn.thenJ fun a ha => ⟨true, rfl, ha.keep [0, 3, 4, 5, 8, 30] (by kernel_rfl), hI⟩
              · rw [if_neg hb52] at h2
                have hb52 : (decide ((runeAt a0 x17) < 32)) = false := by simpa using hb52
                refine OpsT.keep [0, 3, 4, 5, 8, 33] (S' := [(0, .string a0), (3, .pointer (some ⟨b1, 0, none⟩)), (4, .int .i64 (x17 : Int)), (5, .int .i32 (runeAt a0 x17)), (8, .pointer (some ⟨b8, 0, none⟩)), (33, .bool false)]) (by (try simp only [hb52]); kernel_rfl) ?_
                refine OpsT.pures (r := [7, 8, 9, 10, 11, 12]) [3, 4, 5, 6] [0, 3, 4, 5, 8, 37] (S' := [(0, .string a0), (3, .pointer (some ⟨b1, 0, none⟩)), (4, .int .i64 (x17 : Int)), (5, .int .i32 (runeAt a0 x17)), (8, .pointer (some ⟨b8, 0, none⟩)), (37, .bool ((runeAt a0 x17) == 127))]) (by kernel_rfl) ?_
                by_cases hb53 : ((runeAt a0 x17) == 127) = true
                · rw [if_pos hb53] at h2
                  refine OpsT.keep [0, 3, 4, 5, 8, 37] (S' := [(0, .string a0), (3, .pointer (some ⟨b1, 0, none⟩)), (4, .int .i64 (x17 : Int)), (5, .int .i32 (runeAt a0 x17)), (8, .pointer (some ⟨b8, 0, none⟩)), (37, .bool true)]) (by (try simp only [hb53]); kernel_rfl) ?_
                  refine OpsT.pures (r := []) [7, 8, 9, 10, 11, 12] [0, 3, 4, 5, 8, 30] (S' := [(0, .string a0), (3, .pointer (some ⟨b1, 0, none⟩)), (4, .int .i64 (x17 : Int)), (5, .int .i32 (runeAt a0 x17)), (8, .pointer (some ⟨b8, 0, none⟩)), (30, .bool true)]) (by kernel_rfl) ?_
                  refine OpsT.done ?_
                  have e := someS h2
                  subst e
                  exact Qn.thenJ fun a ha => ⟨true, rfl, ha.keep [0, 3, 4, 5, 8, 30] (by kernel_rfl), hI⟩
                · rw [if_neg hb53] at h2
                  have hb53 : ((runeAt a0 x17) == 127) = false := by simpa using hb53
                  refine OpsT.keep [0, 3, 4, 5, 8, 37] (S' := [(0, .string a0), (3, .pointer (some ⟨b1, 0, none⟩)), (4, .int .i64 (x17 : Int)), (5, .int .i32 (runeAt a0 x17)), (8, .pointer (some ⟨b8, 0, none⟩)), (37, .bool false)]) (by (try simp only [hb53]); kernel_rfl) ?_
                  refine OpsT.pures (r := [10, 11, 12]) [7, 8, 9] [0, 3, 4, 5, 8, 37, 38, 39, 40] (S' := [(0, .string a0), (3, .pointer (some ⟨b1, 0, none⟩)), (4, .int .i64 (x17 : Int)), (5, .int .i32 (runeAt a0 x17)), (8, .pointer (some ⟨b8, 0, none⟩)), (37, .bool false), (38, .string a0), (39, .int .i64 (x17 : Int)), (40, .int .i32 (runeAt a0 x17))]) (by kernel_rfl) ?_
                  obtain ⟨y55, hc54, h2⟩ := bindS h2
                  try dsimp only at h2
                  refine OpsT.cons (Does.call (d := some 41) (n := 74) (vs := [.string a0, .int .i64 (x17 : Int), .int .i32 (runeAt a0 x17)]) (by kernel_rfl) en74 (c74 w0 w _ _ hI a0 (x17 : Int) (runeAt a0 x17) _ hc54) ?_)
                  rintro e w ⟨rfl, hI⟩
                  refine ⟨_, rfl, ?_⟩
                  refine OpsT.pures (r := []) [11, 12] [0, 3, 4, 5, 8, 30] (S' := [(0, .string a0), (3, .pointer (some ⟨b1, 0, none⟩)), (4, .int .i64 (x17 : Int)), (5, .int .i32 (runeAt a0 x17)), (8, .pointer (some ⟨b8, 0, none⟩)), (30, .bool y55)]) (by kernel_rfl) ?_
                  refine OpsT.done ?_
                  have e := someS h2
                  subst e
                  exact Qn.thenJ fun a ha => ⟨y55, rfl, ha.keep [0, 3, 4, 5, 8, 30] (by kernel_rfl), hI⟩
            ·
              rintro a w ⟨x51, rfl, ha, hI⟩
              try dsimp only at h1
              refine CodT.of ?_ ha
              by_cases hb56 : x51 = true
              · rw [if_pos hb56] at h1
                refine CodT.yes' (b := x51) (by kernel_rfl) hb56 ?_
                refine CodT.drawI (n := 12) [11] (by kernel_rfl) (by kernel_rfl) hI ?_
                intro w hI
                refine GmT.p' 0 43 (.string a0) (by kernel_rfl) (by kernel_rfl) ?_
                refine GmT.p' 1 44 (.int .i64 (x17 : Int)) (by kernel_rfl) (by kernel_rfl) ?_
                refine GmT.p' 5 48 (.string a0) (by kernel_rfl) (by kernel_rfl) ?_
                refine GmT.p' 6 49 (.int .i64 (x17 : Int)) (by kernel_rfl) (by kernel_rfl) ?_
                obtain ⟨hg57, h1⟩ := guardS h1
                refine GmT.r (i := 2) 5 (by kernel_rfl) (by kernel_rfl) (Yl.indexStr (d := 45) (T := 9) (k := .i64) (j := (x17 : Int)) (s := a0) (by kernel_rfl) Go.Proofs.Try.underlying9 hg57.1 hg57.2) hI ?_
                refine GmT.p' 3 46 (.int .u8 (bShr .u8 (bt a0 (x17 : Int)) 4)) (by kernel_rfl) (by kernel_rfl) ?_
                obtain ⟨hg58, h1⟩ := guardS h1
                refine GmT.r (i := 4) 3 (by kernel_rfl) (by kernel_rfl) (Yl.indexStr (d := 47) (T := 9) (k := .u8) (j := bShr .u8 (bt a0 (x17 : Int)) 4) (s := (⟨#[48, 49, 50, 51, 52, 53, 54, 55, 56, 57, 97, 98, 99, 100, 101, 102]⟩ : ByteArray)) (by kernel_rfl) Go.Proofs.Try.underlying9 hg58.1 hg58.2) hI ?_
                obtain ⟨hg59, h1⟩ := guardS h1
                refine GmT.r (i := 7) 5 (by kernel_rfl) (by kernel_rfl) (Yl.indexStr (d := 50) (T := 9) (k := .i64) (j := (x17 : Int)) (s := a0) (by kernel_rfl) Go.Proofs.Try.underlying9 hg59.1 hg59.2) hI ?_
                refine GmT.p' 8 51 (.int .u8 (bAnd .u8 (bt a0 (x17 : Int)) 15)) (by kernel_rfl) (by kernel_rfl) ?_
                obtain ⟨hg60, h1⟩ := guardS h1
                refine GmT.r (i := 9) 3 (by kernel_rfl) (by kernel_rfl) (Yl.indexStr (d := 52) (T := 9) (k := .u8) (j := bAnd .u8 (bt a0 (x17 : Int)) 15) (s := (⟨#[48, 49, 50, 51, 52, 53, 54, 55, 56, 57, 97, 98, 99, 100, 101, 102]⟩ : ByteArray)) (by kernel_rfl) Go.Proofs.Try.underlying9 hg60.1 hg60.2) hI ?_
                refine GmT.o (i := 10) (by kernel_rfl) (Does.buildSlice (en := (cI .u8)) (d := 53) (n := 4) (T := 41) (ps := [(0, .int .u8 92), (1, .int .u8 120), (2, .int .u8 (bt (⟨#[48, 49, 50, 51, 52, 53, 54, 55, 56, 57, 97, 98, 99, 100, 101, 102]⟩ : ByteArray) (bShr .u8 (bt a0 (x17 : Int)) 4))), (3, .int .u8 (bt (⟨#[48, 49, 50, 51, 52, 53, 54, 55, 56, 57, 97, 98, 99, 100, 101, 102]⟩ : ByteArray) (bAnd .u8 (bt a0 (x17 : Int)) 15)))]) ([92, 120, bt (⟨#[48, 49, 50, 51, 52, 53, 54, 55, 56, 57, 97, 98, 99, 100, 101, 102]⟩ : ByteArray) (bShr .u8 (bt a0 (x17 : Int)) 4), bt (⟨#[48, 49, 50, 51, 52, 53, 54, 55, 56, 57, 97, 98, 99, 100, 101, 102]⟩ : ByteArray) (bAnd .u8 (bt a0 (x17 : Int)) 15)] : List Int) (by kernel_rfl) Go.Proofs.Try.underlying41 ty5 (by kernel_rfl) (by kernel_rfl) (by kernel_rfl) (by kernel_rfl) (len_all (fun _ => rfl)) hI ?_)
                intro b61 w hI
                have hC := hI
                have hC := hC.drop
                refine ⟨fun _ _ => hC, ?_⟩
                obtain ⟨Z62, hle63, hr64, hI⟩ := ownS_freeze hI
                have hI := hI.mono (pick3 _ _ _ _)
                have hI := hI.mono (pick3 _ _ _ _)
                obtain ⟨⟨y66, y67, y68, y69⟩, hc65, h1⟩ := bindS h1
                try dsimp only at h1
                refine GmT.o (i := 11) (by kernel_rfl) (Does.call (d := some 54) (n := 73) (vs := [.pointer (some ⟨b1, 0, none⟩), .slice (some ⟨b61, 0, none⟩) (([92, 120, bt (⟨#[48, 49, 50, 51, 52, 53, 54, 55, 56, 57, 97, 98, 99, 100, 101, 102]⟩ : ByteArray) (bShr .u8 (bt a0 (x17 : Int)) 4), bt (⟨#[48, 49, 50, 51, 52, 53, 54, 55, 56, 57, 97, 98, 99, 100, 101, 102]⟩ : ByteArray) (bAnd .u8 (bt a0 (x17 : Int)) 15)] : List Int).length) 4]) (by kernel_rfl) en73 (c73 w0 w _ _ b1 x18 A20 cp21 x19 (some ⟨b61, 0, none⟩) 4 ([92, 120, bt (⟨#[48, 49, 50, 51, 52, 53, 54, 55, 56, 57, 97, 98, 99, 100, 101, 102]⟩ : ByteArray) (bShr .u8 (bt a0 (x17 : Int)) 4), bt (⟨#[48, 49, 50, 51, 52, 53, 54, 55, 56, 57, 97, 98, 99, 100, 101, 102]⟩ : ByteArray) (bAnd .u8 (bt a0 (x17 : Int)) 15)] : List Int) hr64 hI _ hc65) ?_)
                rintro e w ⟨A70, cp71, rfl, hI⟩
                refine ⟨_, rfl, ?_⟩
                refine ⟨fun h => absurd h (by decide), ?_⟩
                refine GmT.done (by kernel_rfl) ?_
                refine Qn.block_normal ?_
                refine Qn.block_normal ?_
                have hI := hI.mono (pick2 _ _ _)
                have hI := hI.mono (pick3 _ _ _ _)
                exact Qn.thenJ fun a ha => ⟨k, Nat.lt_succ_self k, x17 + runeW a0 x17, y68, y69, Z62, A70, cp71, h1, ha.keep [0, 3, 8] (by kernel_rfl), hI, (Hp.le_trans hle16 hle63)⟩
              · rw [if_neg hb56] at h1
                refine CodT.no' (b := x51) (by kernel_rfl) (by simpa using hb56) ?_
                refine CodT.regionL [0, 1] (by kernel_rfl) ?_
                refine OpsT.pures (r := [1]) [0] [0, 3, 8, 13] (S' := [(0, .string a0), (3, .pointer (some ⟨b1, 0, none⟩)), (8, .pointer (some ⟨b8, 0, none⟩)), (13, .int .i32 (runeAt a0 x17))]) (by kernel_rfl) ?_
                have hI := hI.mono (pick3 _ _ _ _)
                have hI := hI.mono (pick3 _ _ _ _)
                obtain ⟨⟨y73, y74, y75, y76⟩, hc72, h1⟩ := bindS h1
                try dsimp only at h1
                refine OpsT.cons (Does.call (d := some 14) (n := 72) (vs := [.pointer (some ⟨b1, 0, none⟩), .int .i32 (runeAt a0 x17)]) (by kernel_rfl) en72 (c72 w0 w _ _ b1 x18 A20 cp21 x19 (runeAt a0 x17) hI _ hc72) ?_)
                rintro e w ⟨A77, cp78, rfl, hI⟩
                refine ⟨_, rfl, ?_⟩
                refine OpsT.done ?_
                refine Qn.block_normal ?_
                refine Qn.block_normal ?_
                have hI := hI.mono (pick2 _ _ _)
                have hI := hI.mono (pick3 _ _ _ _)
                exact Qn.thenJ fun a ha => ⟨k, Nat.lt_succ_self k, x17 + runeW a0 x17, y75, y76, Z15, A77, cp78, h1, ha.keep [0, 3, 8] (by kernel_rfl), hI, hle16⟩
    · rw [if_neg hb22] at h1
      refine OpsT.cons (Does.nextEnd (d := 9) (b := b8) (pos := x17) (s := a0) (by kernel_rfl) hI hb22 ?_)
      refine OpsT.pures (r := []) [1] [0, 3, 8, 9, 10] (S' := [(0, .string a0), (3, .pointer (some ⟨b1, 0, none⟩)), (8, .pointer (some ⟨b8, 0, none⟩)), (9, .tuple #[.bool false]), (10, .bool false)]) (by kernel_rfl) ?_
      refine OpsT.done ?_
      refine Qn.then ?_
      refine CodT.seq ?_
      refine CodT.no (by kernel_rfl) ?_
      refine CodT.exit ?_
      refine Qn.exit_then ?_
      refine Qn.exit_then ?_
      refine Qn.block ?_
      have hI := hI.drop
      have e := someS h1
      subst e
      exact Qn.thenJ fun a ha => ⟨x18, x19, Z15, A20, cp21, rfl, ha.keep [3] (by kernel_rfl), hI, hle16⟩
  ·
    rintro a w ⟨x11, x12, Z9, A13, cp14, rfl, ha, hI, hle10⟩
    try dsimp only at h0
    refine Qn.of ?_ ha
    refine Qn.then ?_
    refine CodT.seq ?_
    refine CodT.regionL [0] (by kernel_rfl) ?_
    have hI := hI.mono (pick2 _ _ _)
    obtain ⟨⟨y80, y81, y82⟩, hc79, h0⟩ := bindS h0
    try dsimp only at h0
    refine OpsT.cons (Does.call (d := some 55) (n := 71) (vs := [.pointer (some ⟨b1, 0, none⟩), .int .u8 34]) (by kernel_rfl) en71 (c71 w0 w _ _ b1 x11 A13 cp14 x12 34 hI _ hc79) ?_)
    rintro e w ⟨A83, cp84, rfl, hI⟩
    refine ⟨_, rfl, ?_⟩
    refine OpsT.done ?_
    refine Qn.then ?_
    refine CodT.seq ?_
    refine CodT.regionL [0, 1] (by kernel_rfl) ?_
    have hI := hI.mono (pick2 _ _ _)
    have hI := hI.mono (pick2 _ _ _)
    obtain ⟨⟨y86, y87, y88⟩, hc85, h0⟩ := bindS h0
    try dsimp only at h0
    refine OpsT.cons (Does.call (d := some 56) (n := 75) (vs := [.pointer (some ⟨b1, 0, none⟩)]) (by kernel_rfl) en75 (c75 w0 w _ _ b1 y81 A83 cp84 y82 hI _ hc85) ?_)
    rintro e w ⟨A89, cp90, Z92, hle93, rfl, hr91, hI⟩
    refine ⟨_, rfl, ?_⟩
    refine OpsT.pures (r := []) [1] [2] (S' := [(2, .string y86)]) (by kernel_rfl) ?_
    refine OpsT.done ?_
    refine Qn.then ?_
    refine CodT.ret ?_
    have hI := hI.drop
    have e := someS h0
    subst e
    refine Qn.keep [2] (S' := [(2, .string y86)]) (by kernel_rfl) ?_
    exact post_ret (v := .string y86) (fun a ha => RunRes.run (vs := [.string y86]) (.tmp (t := 2) (by kernel_rfl) .nil) ha (by kernel_rfl)) ⟨rfl, hI.weaken (Hp.le_trans hle10 hle93)⟩
set_option maxRecDepth 100000 in
set_option maxHeartbeats 4000000 in
/-- (cenotaph/event.text).show -/
theorem c68 (w0 w : World) (Z : Hp) (A : HP) (hI : Inv w0 Z w A) (a0 : ByteArray) (r : ByteArray) (h0 : event_text_show a0 = some r) :
    Calls prog 68 #[.string a0] w (fun e w' => e = .returned (.string r) ∧ Inv w0 Z w' A) := by
  have e4 := calls_intro (R := (fun e w' => e = .returned (.string r) ∧ Inv w0 Z w' A)) (w := w) (args := [.string a0]) (fn := Go.Proofs.Try.f68) 5 Go.Proofs.Try.func68 (by rfl) Go.Proofs.Try.ntmps68 (by kernel_rfl)
  refine e4 ?_
  clear e4
  unfold event_text_show at h0
  refine CodT.seq ?_
  refine CodT.regionL [0] (by kernel_rfl) ?_
  refine OpsT.pures (r := []) [0] [0] (S' := [(0, .string a0)]) (by kernel_rfl) ?_
  refine OpsT.done ?_
  refine Qn.then ?_
  refine CodT.seq ?_
  refine CodT.regionL [0, 1, 2] (by kernel_rfl) ?_
  refine OpsT.pures (r := [1, 2]) [0] [3] (S' := [(3, .string a0)]) (by kernel_rfl) ?_
  obtain ⟨y2, hc1, h0⟩ := bindS h0
  try dsimp only at h0
  refine OpsT.cons (Does.call (d := some 4) (n := 70) (vs := [.string a0]) (by kernel_rfl) en70 (c70 w0 w _ _ hI a0 _ hc1) ?_)
  rintro e w ⟨rfl, hI⟩
  refine ⟨_, rfl, ?_⟩
  refine OpsT.pures (r := []) [2] [2] (S' := [(2, .string y2)]) (by kernel_rfl) ?_
  refine OpsT.done ?_
  refine Qn.then ?_
  refine CodT.ret ?_
  have e := someS h0
  subst e
  refine Qn.keep [2] (S' := [(2, .string y2)]) (by kernel_rfl) ?_
  exact post_ret (v := .string y2) (fun a ha => RunRes.run (vs := [.string y2]) (.tmp (t := 2) (by kernel_rfl) .nil) ha (by kernel_rfl)) ⟨rfl, hI⟩
set_option maxRecDepth 100000 in
set_option maxHeartbeats 4000000 in
/-- internal/strconv.small -/
theorem c87 (w0 w : World) (Z : Hp) (A : HP) (hI : Inv w0 Z w A) (a0 : Int) (r : ByteArray) (h0 : strconv_small a0 = some r) :
    Calls prog 87 #[.int .i64 a0] w (fun e w' => e = .returned (.string r) ∧ Inv w0 Z w' A) := by
  have e4 := calls_intro (R := (fun e w' => e = .returned (.string r) ∧ Inv w0 Z w' A)) (w := w) (args := [.int .i64 a0]) (fn := Go.Proofs.Try.f87) 15 Go.Proofs.Try.func87 (by rfl) Go.Proofs.Try.ntmps87 (by kernel_rfl)
  refine e4 ?_
  clear e4
  unfold strconv_small at h0
  refine CodT.seq ?_
  refine CodT.regionL [0] (by kernel_rfl) ?_
  refine OpsT.pures (r := []) [0] [0] (S' := [(0, .int .i64 a0)]) (by kernel_rfl) ?_
  refine OpsT.done ?_
  refine Qn.then ?_
  refine CodT.seq ?_
  refine CodT.seq ?_
  refine CodT.regionL [0, 1] (by kernel_rfl) ?_
  refine OpsT.pures (r := []) [0, 1] [0, 4] (S' := [(0, .int .i64 a0), (4, .bool (decide (a0 < 10)))]) (by kernel_rfl) ?_
  refine OpsT.done ?_
  refine Qn.then ?_
  by_cases hb1 : (decide (a0 < 10)) = true
  · rw [if_pos hb1] at h0
    refine CodT.yes' (b := decide (a0 < 10)) (by kernel_rfl) hb1 ?_
    refine CodT.seq ?_
    refine CodT.regionL [0, 1, 2, 3, 4] (by kernel_rfl) ?_
    refine OpsT.pures (r := [3, 4]) [0, 1, 2] [5, 7] (S' := [(5, .int .i64 a0), (7, .int .i64 (wi64 (a0 + 1)))]) (by kernel_rfl) ?_
    obtain ⟨hg2, h0⟩ := guardS h0
    refine OpsT.cons (Does.yi (Yl.sliceStr11 (d := 8) (T := 9) (s := (⟨#[48, 49, 50, 51, 52, 53, 54, 55, 56, 57, 97, 98, 99, 100, 101, 102, 103, 104, 105, 106, 107, 108, 109, 110, 111, 112, 113, 114, 115, 116, 117, 118, 119, 120, 121, 122]⟩ : ByteArray)) (lo := a0) (hi := wi64 (a0 + 1)) (by kernel_rfl) Go.Proofs.Try.underlying9 hg2) hI ?_)
    refine OpsT.pures (r := []) [4] [2] (S' := [(2, .string (sx (⟨#[48, 49, 50, 51, 52, 53, 54, 55, 56, 57, 97, 98, 99, 100, 101, 102, 103, 104, 105, 106, 107, 108, 109, 110, 111, 112, 113, 114, 115, 116, 117, 118, 119, 120, 121, 122]⟩ : ByteArray) a0 (wi64 (a0 + 1))))]) (by kernel_rfl) ?_
    refine OpsT.done ?_
    refine Qn.then ?_
    refine CodT.ret ?_
    refine Qn.ret_then ?_
    have e := someS h0
    subst e
    refine Qn.keep [2] (S' := [(2, .string (sx (⟨#[48, 49, 50, 51, 52, 53, 54, 55, 56, 57, 97, 98, 99, 100, 101, 102, 103, 104, 105, 106, 107, 108, 109, 110, 111, 112, 113, 114, 115, 116, 117, 118, 119, 120, 121, 122]⟩ : ByteArray) a0 (wi64 (a0 + 1))))]) (by kernel_rfl) ?_
    exact post_ret (v := .string (sx (⟨#[48, 49, 50, 51, 52, 53, 54, 55, 56, 57, 97, 98, 99, 100, 101, 102, 103, 104, 105, 106, 107, 108, 109, 110, 111, 112, 113, 114, 115, 116, 117, 118, 119, 120, 121, 122]⟩ : ByteArray) a0 (wi64 (a0 + 1)))) (fun a ha => RunRes.run (vs := [.string (sx (⟨#[48, 49, 50, 51, 52, 53, 54, 55, 56, 57, 97, 98, 99, 100, 101, 102, 103, 104, 105, 106, 107, 108, 109, 110, 111, 112, 113, 114, 115, 116, 117, 118, 119, 120, 121, 122]⟩ : ByteArray) a0 (wi64 (a0 + 1)))]) (.tmp (t := 2) (by kernel_rfl) .nil) ha (by kernel_rfl)) ⟨rfl, hI⟩
  · rw [if_neg hb1] at h0
    refine CodT.no' (b := decide (a0 < 10)) (by kernel_rfl) (by simpa using hb1) ?_
    refine CodT.skip ?_
    refine Qn.then ?_
    refine CodT.seq ?_
    refine CodT.regionL [0, 1, 2, 3, 4, 5, 6] (by kernel_rfl) ?_
    refine OpsT.pures (r := [5, 6]) [0, 1, 2, 3, 4] [10, 13] (S' := [(10, .int .i64 (wi64 (a0 * 2))), (13, .int .i64 (wi64 ((wi64 (a0 * 2)) + 2)))]) (by kernel_rfl) ?_
    obtain ⟨hg3, h0⟩ := guardS h0
    refine OpsT.cons (Does.yi (Yl.sliceStr11 (d := 14) (T := 9) (s := (⟨#[48, 48, 48, 49, 48, 50, 48, 51, 48, 52, 48, 53, 48, 54, 48, 55, 48, 56, 48, 57, 49, 48, 49, 49, 49, 50, 49, 51, 49, 52, 49, 53, 49, 54, 49, 55, 49, 56, 49, 57, 50, 48, 50, 49, 50, 50, 50, 51, 50, 52, 50, 53, 50, 54, 50, 55, 50, 56, 50, 57, 51, 48, 51, 49, 51, 50, 51, 51, 51, 52, 51, 53, 51, 54, 51, 55, 51, 56, 51, 57, 52, 48, 52, 49, 52, 50, 52, 51, 52, 52, 52, 53, 52, 54, 52, 55, 52, 56, 52, 57, 53, 48, 53, 49, 53, 50, 53, 51, 53, 52, 53, 53, 53, 54, 53, 55, 53, 56, 53, 57, 54, 48, 54, 49, 54, 50, 54, 51, 54, 52, 54, 53, 54, 54, 54, 55, 54, 56, 54, 57, 55, 48, 55, 49, 55, 50, 55, 51, 55, 52, 55, 53, 55, 54, 55, 55, 55, 56, 55, 57, 56, 48, 56, 49, 56, 50, 56, 51, 56, 52, 56, 53, 56, 54, 56, 55, 56, 56, 56, 57, 57, 48, 57, 49, 57, 50, 57, 51, 57, 52, 57, 53, 57, 54, 57, 55, 57, 56, 57, 57]⟩ : ByteArray)) (lo := wi64 (a0 * 2)) (hi := wi64 ((wi64 (a0 * 2)) + 2)) (by kernel_rfl) Go.Proofs.Try.underlying9 hg3) hI ?_)
    refine OpsT.pures (r := []) [6] [2] (S' := [(2, .string (sx (⟨#[48, 48, 48, 49, 48, 50, 48, 51, 48, 52, 48, 53, 48, 54, 48, 55, 48, 56, 48, 57, 49, 48, 49, 49, 49, 50, 49, 51, 49, 52, 49, 53, 49, 54, 49, 55, 49, 56, 49, 57, 50, 48, 50, 49, 50, 50, 50, 51, 50, 52, 50, 53, 50, 54, 50, 55, 50, 56, 50, 57, 51, 48, 51, 49, 51, 50, 51, 51, 51, 52, 51, 53, 51, 54, 51, 55, 51, 56, 51, 57, 52, 48, 52, 49, 52, 50, 52, 51, 52, 52, 52, 53, 52, 54, 52, 55, 52, 56, 52, 57, 53, 48, 53, 49, 53, 50, 53, 51, 53, 52, 53, 53, 53, 54, 53, 55, 53, 56, 53, 57, 54, 48, 54, 49, 54, 50, 54, 51, 54, 52, 54, 53, 54, 54, 54, 55, 54, 56, 54, 57, 55, 48, 55, 49, 55, 50, 55, 51, 55, 52, 55, 53, 55, 54, 55, 55, 55, 56, 55, 57, 56, 48, 56, 49, 56, 50, 56, 51, 56, 52, 56, 53, 56, 54, 56, 55, 56, 56, 56, 57, 57, 48, 57, 49, 57, 50, 57, 51, 57, 52, 57, 53, 57, 54, 57, 55, 57, 56, 57, 57]⟩ : ByteArray) (wi64 (a0 * 2)) (wi64 ((wi64 (a0 * 2)) + 2))))]) (by kernel_rfl) ?_
    refine OpsT.done ?_
    refine Qn.then ?_
    refine CodT.ret ?_
    have e := someS h0
    subst e
    refine Qn.keep [2] (S' := [(2, .string (sx (⟨#[48, 48, 48, 49, 48, 50, 48, 51, 48, 52, 48, 53, 48, 54, 48, 55, 48, 56, 48, 57, 49, 48, 49, 49, 49, 50, 49, 51, 49, 52, 49, 53, 49, 54, 49, 55, 49, 56, 49, 57, 50, 48, 50, 49, 50, 50, 50, 51, 50, 52, 50, 53, 50, 54, 50, 55, 50, 56, 50, 57, 51, 48, 51, 49, 51, 50, 51, 51, 51, 52, 51, 53, 51, 54, 51, 55, 51, 56, 51, 57, 52, 48, 52, 49, 52, 50, 52, 51, 52, 52, 52, 53, 52, 54, 52, 55, 52, 56, 52, 57, 53, 48, 53, 49, 53, 50, 53, 51, 53, 52, 53, 53, 53, 54, 53, 55, 53, 56, 53, 57, 54, 48, 54, 49, 54, 50, 54, 51, 54, 52, 54, 53, 54, 54, 54, 55, 54, 56, 54, 57, 55, 48, 55, 49, 55, 50, 55, 51, 55, 52, 55, 53, 55, 54, 55, 55, 55, 56, 55, 57, 56, 48, 56, 49, 56, 50, 56, 51, 56, 52, 56, 53, 56, 54, 56, 55, 56, 56, 56, 57, 57, 48, 57, 49, 57, 50, 57, 51, 57, 52, 57, 53, 57, 54, 57, 55, 57, 56, 57, 57]⟩ : ByteArray) (wi64 (a0 * 2)) (wi64 ((wi64 (a0 * 2)) + 2))))]) (by kernel_rfl) ?_
    exact post_ret (v := .string (sx (⟨#[48, 48, 48, 49, 48, 50, 48, 51, 48, 52, 48, 53, 48, 54, 48, 55, 48, 56, 48, 57, 49, 48, 49, 49, 49, 50, 49, 51, 49, 52, 49, 53, 49, 54, 49, 55, 49, 56, 49, 57, 50, 48, 50, 49, 50, 50, 50, 51, 50, 52, 50, 53, 50, 54, 50, 55, 50, 56, 50, 57, 51, 48, 51, 49, 51, 50, 51, 51, 51, 52, 51, 53, 51, 54, 51, 55, 51, 56, 51, 57, 52, 48, 52, 49, 52, 50, 52, 51, 52, 52, 52, 53, 52, 54, 52, 55, 52, 56, 52, 57, 53, 48, 53, 49, 53, 50, 53, 51, 53, 52, 53, 53, 53, 54, 53, 55, 53, 56, 53, 57, 54, 48, 54, 49, 54, 50, 54, 51, 54, 52, 54, 53, 54, 54, 54, 55, 54, 56, 54, 57, 55, 48, 55, 49, 55, 50, 55, 51, 55, 52, 55, 53, 55, 54, 55, 55, 55, 56, 55, 57, 56, 48, 56, 49, 56, 50, 56, 51, 56, 52, 56, 53, 56, 54, 56, 55, 56, 56, 56, 57, 57, 48, 57, 49, 57, 50, 57, 51, 57, 52, 57, 53, 57, 54, 57, 55, 57, 56, 57, 57]⟩ : ByteArray) (wi64 (a0 * 2)) (wi64 ((wi64 (a0 * 2)) + 2)))) (fun a ha => RunRes.run (vs := [.string (sx (⟨#[48, 48, 48, 49, 48, 50, 48, 51, 48, 52, 48, 53, 48, 54, 48, 55, 48, 56, 48, 57, 49, 48, 49, 49, 49, 50, 49, 51, 49, 52, 49, 53, 49, 54, 49, 55, 49, 56, 49, 57, 50, 48, 50, 49, 50, 50, 50, 51, 50, 52, 50, 53, 50, 54, 50, 55, 50, 56, 50, 57, 51, 48, 51, 49, 51, 50, 51, 51, 51, 52, 51, 53, 51, 54, 51, 55, 51, 56, 51, 57, 52, 48, 52, 49, 52, 50, 52, 51, 52, 52, 52, 53, 52, 54, 52, 55, 52, 56, 52, 57, 53, 48, 53, 49, 53, 50, 53, 51, 53, 52, 53, 53, 53, 54, 53, 55, 53, 56, 53, 57, 54, 48, 54, 49, 54, 50, 54, 51, 54, 52, 54, 53, 54, 54, 54, 55, 54, 56, 54, 57, 55, 48, 55, 49, 55, 50, 55, 51, 55, 52, 55, 53, 55, 54, 55, 55, 55, 56, 55, 57, 56, 48, 56, 49, 56, 50, 56, 51, 56, 52, 56, 53, 56, 54, 56, 55, 56, 56, 56, 57, 57, 48, 57, 49, 57, 50, 57, 51, 57, 52, 57, 53, 57, 54, 57, 55, 57, 56, 57, 57]⟩ : ByteArray) (wi64 (a0 * 2)) (wi64 ((wi64 (a0 * 2)) + 2)))]) (.tmp (t := 2) (by kernel_rfl) .nil) ha (by kernel_rfl)) ⟨rfl, hI⟩
set_option maxRecDepth 100000 in
set_option maxHeartbeats 4000000 in
/-- internal/strconv.FormatInt -/
theorem c86 (w0 w : World) (Z : Hp) (A : HP) (hI : Inv w0 Z w A) (a0 : Int) (a1 : Int) (r : ByteArray) (h0 : strconv_FormatInt a0 a1 = some r) :
    Calls prog 86 #[.int .i64 a0, .int .i64 a1] w (fun e w' => e = .returned (.string r) ∧ Inv w0 Z w' A) := by
  have e4 := calls_intro (R := (fun e w' => e = .returned (.string r) ∧ Inv w0 Z w' A)) (w := w) (args := [.int .i64 a0, .int .i64 a1]) (fn := Go.Proofs.Try.f86) 54 Go.Proofs.Try.func86 (by rfl) Go.Proofs.Try.ntmps86 (by kernel_rfl)
  refine e4 ?_
  clear e4
  unfold strconv_FormatInt at h0
  refine CodT.seq ?_
  refine CodT.regionL [0] (by kernel_rfl) ?_
  refine OpsT.pures (r := []) [0] [0, 1] (S' := [(0, .int .i64 a0), (1, .int .i64 a1)]) (by kernel_rfl) ?_
  refine OpsT.done ?_
  refine Qn.then ?_
  refine CodT.seq ?_
  refine CodT.seq ?_
  refine CodT.regionL [0, 1] (by kernel_rfl) ?_
  refine OpsT.pures (r := []) [0, 1] [0, 1, 11] (S' := [(0, .int .i64 a0), (1, .int .i64 a1), (11, .bool (a1 == 10))]) (by kernel_rfl) ?_
  refine OpsT.done ?_
  refine Qn.then ?_
  by_cases hb1 : (a1 == 10) = true
  · rw [if_pos hb1] at h0
    refine CodT.yes' (b := a1 == 10) (by kernel_rfl) hb1 ?_
    refine CodT.seq ?_
    obtain ⟨r1, h1, h0⟩ := bindS h0
    refine CodT.meet (fun a w => ∃ (x2 : Bool), x2 = r1 ∧ Fr 54 [(0, .int .i64 a0), (17, .bool x2)] a ∧ Inv w0 Z w A) ?_ ?_
    ·
      refine CodT.regionL [0, 1, 2, 3, 4, 5] (by kernel_rfl) ?_
      refine OpsT.pures (r := [3, 4, 5]) [0, 1, 2] [0, 14] (S' := [(0, .int .i64 a0), (14, .bool (decide ((0 : Int) ≤ a0)))]) (by kernel_rfl) ?_
      by_cases hb3 : (decide ((0 : Int) ≤ a0)) = true
      · rw [if_pos hb3] at h1
        refine OpsT.keep [0, 14] (S' := [(0, .int .i64 a0), (14, .bool true)]) (by (try simp only [hb3]); kernel_rfl) ?_
        refine OpsT.pures (r := []) [3, 4, 5] [0, 17] (S' := [(0, .int .i64 a0), (17, .bool (decide (a0 < 100)))]) (by kernel_rfl) ?_
        refine OpsT.done ?_
        have e := someS h1
        subst e
        exact Qn.thenJ fun a ha => ⟨decide (a0 < 100), rfl, ha.keep [0, 17] (by kernel_rfl), hI⟩
      · rw [if_neg hb3] at h1
        have hb3 : (decide ((0 : Int) ≤ a0)) = false := by simpa using hb3
        refine OpsT.keep [0, 14] (S' := [(0, .int .i64 a0), (14, .bool false)]) (by (try simp only [hb3]); kernel_rfl) ?_
        refine OpsT.pures (r := []) [3, 4, 5] [0, 17] (S' := [(0, .int .i64 a0), (17, .bool false)]) (by kernel_rfl) ?_
        refine OpsT.done ?_
        have e := someS h1
        subst e
        exact Qn.thenJ fun a ha => ⟨false, rfl, ha.keep [0, 17] (by kernel_rfl), hI⟩
    ·
      rintro a w ⟨x2, rfl, ha, hI⟩
      try dsimp only at h0
      refine CodT.of ?_ ha
      by_cases hb4 : x2 = true
      · rw [if_pos hb4] at h0
        refine CodT.yes' (b := x2) (by kernel_rfl) hb4 ?_
        refine CodT.seq ?_
        refine CodT.regionL [0, 1, 2] (by kernel_rfl) ?_
        refine OpsT.pures (r := [1, 2]) [0] [18] (S' := [(18, .int .i64 a0)]) (by kernel_rfl) ?_
        obtain ⟨y6, hc5, h0⟩ := bindS h0
        try dsimp only at h0
        refine OpsT.cons (Does.call (d := some 19) (n := 87) (vs := [.int .i64 a0]) (by kernel_rfl) en87 (c87 w0 w _ _ hI a0 _ hc5) ?_)
        rintro e w ⟨rfl, hI⟩
        refine ⟨_, rfl, ?_⟩
        refine OpsT.pures (r := []) [2] [4] (S' := [(4, .string y6)]) (by kernel_rfl) ?_
        refine OpsT.done ?_
        refine Qn.then ?_
        refine CodT.ret ?_
        refine Qn.ret_then ?_
        refine Qn.ret_then ?_
        have e := someS h0
        subst e
        refine Qn.keep [4] (S' := [(4, .string y6)]) (by kernel_rfl) ?_
        exact post_ret (v := .string y6) (fun a ha => RunRes.run (vs := [.string y6]) (.tmp (t := 4) (by kernel_rfl) .nil) ha (by kernel_rfl)) ⟨rfl, hI⟩
      · rw [if_neg hb4] at h0
        refine CodT.no' (b := x2) (by kernel_rfl) (by simpa using hb4) ?_
        refine CodT.skip ?_
        refine Qn.then ?_
        refine CodT.seq ?_
        refine CodT.regionL [0] (by kernel_rfl) ?_
        refine OpsT.cons (Does.allocL (d := 5) (T := 125) (cA (Value.int .u8) (List.replicate 24 (0 : Int))) (by kernel_rfl) ty125 hI (by kernel_rfl) ?_)
        intro b7 w hI
        refine OpsT.done ?_
        refine Qn.then ?_
        refine CodT.seq ?_
        refine CodT.regionL [0, 1, 2] (by kernel_rfl) ?_
        refine OpsT.pures (r := []) [0, 1, 2] [0, 5, 6] (S' := [(0, .int .i64 a0), (5, .pointer (some ⟨b7, 0, none⟩)), (6, .int .u64 (wu64 a0))]) (by kernel_rfl) ?_
        refine OpsT.done ?_
        refine Qn.then ?_
        obtain ⟨r1, h1, h0⟩ := bindS h0
        refine CodT.meet (fun a w => ∃ (x8 : Int), x8 = r1 ∧ Fr 54 [(0, .int .i64 a0), (5, .pointer (some ⟨b7, 0, none⟩)), (6, .int .u64 x8)] a ∧ Inv w0 Z w (star (pt b7 (.cells (cA (Value.int .u8) (List.replicate 24 (0 : Int))).toArray 125 (0, 0))) A)) ?_ ?_
        ·
          refine CodT.seq ?_
          refine CodT.regionL [0, 1] (by kernel_rfl) ?_
          refine OpsT.pures (r := []) [0, 1] [0, 5, 6, 23] (S' := [(0, .int .i64 a0), (5, .pointer (some ⟨b7, 0, none⟩)), (6, .int .u64 (wu64 a0)), (23, .bool (decide (a0 < 0)))]) (by kernel_rfl) ?_
          refine OpsT.done ?_
          refine Qn.then ?_
          by_cases hb9 : (decide (a0 < 0)) = true
          · rw [if_pos hb9] at h1
            refine CodT.yes' (b := decide (a0 < 0)) (by kernel_rfl) hb9 ?_
            refine CodT.regionL [0, 1, 2] (by kernel_rfl) ?_
            refine OpsT.pures (r := []) [0, 1, 2] [0, 5, 6] (S' := [(0, .int .i64 a0), (5, .pointer (some ⟨b7, 0, none⟩)), (6, .int .u64 (wu64 (0 - (wu64 a0))))]) (by kernel_rfl) ?_
            refine OpsT.done ?_
            have e := someS h1
            subst e
            exact Qn.thenJ fun a ha => ⟨wu64 (0 - (wu64 a0)), rfl, ha.keep [0, 5, 6] (by kernel_rfl), hI⟩
          · rw [if_neg hb9] at h1
            refine CodT.no' (b := decide (a0 < 0)) (by kernel_rfl) (by simpa using hb9) ?_
            refine CodT.skip ?_
            have e := someS h1
            subst e
            exact Qn.thenJ fun a ha => ⟨wu64 a0, rfl, ha.keep [0, 5, 6] (by kernel_rfl), hI⟩
        ·
          rintro a w ⟨x8, rfl, ha, hI⟩
          try dsimp only at h0
          refine CodT.of ?_ ha
          refine CodT.seq ?_
          refine CodT.regionL [0, 1, 2] (by kernel_rfl) ?_
          refine OpsT.pures (r := [1, 2]) [0] [0, 5, 6, 26] (S' := [(0, .int .i64 a0), (5, .pointer (some ⟨b7, 0, none⟩)), (6, .int .u64 x8), (26, .int .u64 x8)]) (by kernel_rfl) ?_
          cases h0
  · rw [if_neg hb1] at h0
    refine CodT.no' (b := a1 == 10) (by kernel_rfl) (by simpa using hb1) ?_
    refine CodT.skip ?_
    refine Qn.then ?_
    refine CodT.seq ?_
    refine CodT.regionL [0, 1, 2, 3, 4, 5, 6, 7, 8, 9, 10] (by kernel_rfl) ?_
    refine OpsT.pures (r := [5, 6, 7, 8, 9, 10]) [0, 1, 2, 3, 4] [46, 47, 49] (S' := [(46, .int .u64 (wu64 a0)), (47, .int .i64 a1), (49, .bool (decide (a0 < 0)))]) (by kernel_rfl) ?_
    cases h0
set_option maxRecDepth 100000 in
set_option maxHeartbeats 4000000 in
/-- internal/strconv.Itoa -/
theorem c85 (w0 w : World) (Z : Hp) (A : HP) (hI : Inv w0 Z w A) (a0 : Int) (r : ByteArray) (h0 : strconv_Itoa' a0 = some r) :
    Calls prog 85 #[.int .i64 a0] w (fun e w' => e = .returned (.string r) ∧ Inv w0 Z w' A) := by
  have e4 := calls_intro (R := (fun e w' => e = .returned (.string r) ∧ Inv w0 Z w' A)) (w := w) (args := [.int .i64 a0]) (fn := Go.Proofs.Try.f85) 5 Go.Proofs.Try.func85 (by rfl) Go.Proofs.Try.ntmps85 (by kernel_rfl)
  refine e4 ?_
  clear e4
  unfold strconv_Itoa' at h0
  refine CodT.seq ?_
  refine CodT.regionL [0] (by kernel_rfl) ?_
  refine OpsT.pures (r := []) [0] [0] (S' := [(0, .int .i64 a0)]) (by kernel_rfl) ?_
  refine OpsT.done ?_
  refine Qn.then ?_
  refine CodT.seq ?_
  refine CodT.regionL [0, 1, 2] (by kernel_rfl) ?_
  refine OpsT.pures (r := [1, 2]) [0] [3] (S' := [(3, .int .i64 a0)]) (by kernel_rfl) ?_
  obtain ⟨y2, hc1, h0⟩ := bindS h0
  try dsimp only at h0
  refine OpsT.cons (Does.call (d := some 4) (n := 86) (vs := [.int .i64 a0, .int .i64 10]) (by kernel_rfl) en86 (c86 w0 w _ _ hI a0 10 _ hc1) ?_)
  rintro e w ⟨rfl, hI⟩
  refine ⟨_, rfl, ?_⟩
  refine OpsT.pures (r := []) [2] [2] (S' := [(2, .string y2)]) (by kernel_rfl) ?_
  refine OpsT.done ?_
  refine Qn.then ?_
  refine CodT.ret ?_
  have e := someS h0
  subst e
  refine Qn.keep [2] (S' := [(2, .string y2)]) (by kernel_rfl) ?_
  exact post_ret (v := .string y2) (fun a ha => RunRes.run (vs := [.string y2]) (.tmp (t := 2) (by kernel_rfl) .nil) ha (by kernel_rfl)) ⟨rfl, hI⟩
set_option maxRecDepth 100000 in
set_option maxHeartbeats 4000000 in
/-- strconv.Itoa -/
theorem c84 (w0 w : World) (Z : Hp) (A : HP) (hI : Inv w0 Z w A) (a0 : Int) (r : ByteArray) (h0 : strconv_Itoa a0 = some r) :
    Calls prog 84 #[.int .i64 a0] w (fun e w' => e = .returned (.string r) ∧ Inv w0 Z w' A) := by
  have e4 := calls_intro (R := (fun e w' => e = .returned (.string r) ∧ Inv w0 Z w' A)) (w := w) (args := [.int .i64 a0]) (fn := Go.Proofs.Try.f84) 5 Go.Proofs.Try.func84 (by rfl) Go.Proofs.Try.ntmps84 (by kernel_rfl)
  refine e4 ?_
  clear e4
  unfold strconv_Itoa at h0
  refine CodT.seq ?_
  refine CodT.regionL [0] (by kernel_rfl) ?_
  refine OpsT.pures (r := []) [0] [0] (S' := [(0, .int .i64 a0)]) (by kernel_rfl) ?_
  refine OpsT.done ?_
  refine Qn.then ?_
  refine CodT.seq ?_
  refine CodT.regionL [0, 1, 2] (by kernel_rfl) ?_
  refine OpsT.pures (r := [1, 2]) [0] [3] (S' := [(3, .int .i64 a0)]) (by kernel_rfl) ?_
  obtain ⟨y2, hc1, h0⟩ := bindS h0
  try dsimp only at h0
  refine OpsT.cons (Does.call (d := some 4) (n := 85) (vs := [.int .i64 a0]) (by kernel_rfl) en85 (c85 w0 w _ _ hI a0 _ hc1) ?_)
  rintro e w ⟨rfl, hI⟩
  refine ⟨_, rfl, ?_⟩
  refine OpsT.pures (r := []) [2] [2] (S' := [(2, .string y2)]) (by kernel_rfl) ?_
  refine OpsT.done ?_
  refine Qn.then ?_
  refine CodT.ret ?_
  have e := someS h0
  subst e
  refine Qn.keep [2] (S' := [(2, .string y2)]) (by kernel_rfl) ?_
  exact post_ret (v := .string y2) (fun a ha => RunRes.run (vs := [.string y2]) (.tmp (t := 2) (by kernel_rfl) .nil) ha (by kernel_rfl)) ⟨rfl, hI⟩
set_option maxRecDepth 100000 in
set_option maxHeartbeats 4000000 in
/-- (cenotaph/event.number).show -/
theorem c83 (w0 w : World) (Z : Hp) (A : HP) (hI : Inv w0 Z w A) (a0 : Int) (r : ByteArray) (h0 : event_number_show a0 = some r) :
    Calls prog 83 #[.int .i64 a0] w (fun e w' => e = .returned (.string r) ∧ Inv w0 Z w' A) := by
  have e4 := calls_intro (R := (fun e w' => e = .returned (.string r) ∧ Inv w0 Z w' A)) (w := w) (args := [.int .i64 a0]) (fn := Go.Proofs.Try.f83) 5 Go.Proofs.Try.func83 (by rfl) Go.Proofs.Try.ntmps83 (by kernel_rfl)
  refine e4 ?_
  clear e4
  unfold event_number_show at h0
  refine CodT.seq ?_
  refine CodT.regionL [0] (by kernel_rfl) ?_
  refine OpsT.pures (r := []) [0] [0] (S' := [(0, .int .i64 a0)]) (by kernel_rfl) ?_
  refine OpsT.done ?_
  refine Qn.then ?_
  refine CodT.seq ?_
  refine CodT.regionL [0, 1, 2] (by kernel_rfl) ?_
  refine OpsT.pures (r := [1, 2]) [0] [3] (S' := [(3, .int .i64 a0)]) (by kernel_rfl) ?_
  obtain ⟨y2, hc1, h0⟩ := bindS h0
  try dsimp only at h0
  refine OpsT.cons (Does.call (d := some 4) (n := 84) (vs := [.int .i64 a0]) (by kernel_rfl) en84 (c84 w0 w _ _ hI a0 _ hc1) ?_)
  rintro e w ⟨rfl, hI⟩
  refine ⟨_, rfl, ?_⟩
  refine OpsT.pures (r := []) [2] [2] (S' := [(2, .string y2)]) (by kernel_rfl) ?_
  refine OpsT.done ?_
  refine Qn.then ?_
  refine CodT.ret ?_
  have e := someS h0
  subst e
  refine Qn.keep [2] (S' := [(2, .string y2)]) (by kernel_rfl) ?_
  exact post_ret (v := .string y2) (fun a ha => RunRes.run (vs := [.string y2]) (.tmp (t := 2) (by kernel_rfl) .nil) ha (by kernel_rfl)) ⟨rfl, hI⟩
set_option maxRecDepth 100000 in
set_option maxHeartbeats 4000000 in
/-- cenotaph/sha.Text -/
theorem c101 (w0 w : World) (Z : Hp) (A : HP) (hI : Inv w0 Z w A) (a0 : (List Int)) (hl_a0 : a0.length = 32) (r : ByteArray) (h0 : sha_Text a0 = some r) :
    Calls prog 101 #[.agg (cA (Value.int .u8) a0).toArray] w (fun e w' => e = .returned (.string r) ∧ Inv w0 Z w' A) := by
  have e4 := calls_intro (R := (fun e w' => e = .returned (.string r) ∧ Inv w0 Z w' A)) (w := w) (args := [.agg (cA (Value.int .u8) a0).toArray]) (fn := Go.Proofs.Try.f101) 22 Go.Proofs.Try.func101 (by rfl) Go.Proofs.Try.ntmps101 (by kernel_rfl)
  refine e4 ?_
  clear e4
  unfold sha_Text at h0
  refine CodT.seq ?_
  refine CodT.regionL [0, 1] (by kernel_rfl) ?_
  refine OpsT.cons (Does.boxL (d := 1) (T := 24) (v := .agg (cA (Value.int .u8) a0).toArray) (cA (Value.int .u8) a0) (by kernel_rfl) hI (by kernel_rfl) ?_)
  intro b1 w hI
  refine OpsT.pures (r := []) [1] [1] (S' := [(1, .pointer (some ⟨b1, 0, none⟩))]) (by kernel_rfl) ?_
  refine OpsT.done ?_
  refine Qn.then ?_
  refine CodT.seq ?_
  refine CodT.regionL [0] (by kernel_rfl) ?_
  refine OpsT.pures (r := []) [0] [1, 3] (S' := [(1, .pointer (some ⟨b1, 0, none⟩)), (3, .slice none 0 0)]) (by kernel_rfl) ?_
  refine OpsT.done ?_
  refine Qn.then ?_
  refine CodT.seq ?_
  refine CodT.seq ?_
  refine CodT.regionL [0, 1] (by kernel_rfl) ?_
  refine OpsT.cons (Does.yi (Yl.load (d := 6) (T := 24) (v := .agg (cA (Value.int .u8) a0).toArray) (by kernel_rfl) (ldBN ty24 (l := cA (Value.int .u8) a0) (o := 0) (cs := cA (Value.int .u8) a0) (ent_refl _) ((cA_length _ _).trans hl_a0) (whole _ _ ((cA_length _ _).trans hl_a0)))) hI ?_)
  refine OpsT.pures (r := []) [1] [3, 6, 7] (S' := [(3, .slice none 0 0), (6, .agg (cA (Value.int .u8) a0).toArray), (7, .int .i64 0)]) (by kernel_rfl) ?_
  refine OpsT.done ?_
  refine Qn.then ?_
  obtain ⟨r1, h1, h0⟩ := bindS h0
  refine CodT.meet1 (fun a w => ∃ (x2 : (List Int)) (A3 : Option Addr) (cp4 : Nat), x2 = r1 ∧ Fr 22 [(3, .slice A3 x2.length cp4)] a ∧ Inv w0 Z w (star (ownS 5 (cI .u8) 1 A3 cp4 x2) A)) ?_ ?_
  ·
    refine CodT.block ?_
    have hI := ownS_nil (α := Int) hI 5 (cI .u8) 1
    have hI := hI.mono (pick2 _ _ _)
    have hI := hI.drop
    refine (fun a ha => wp_loopN (fun k a w => ∃ (x5 : (List Int)) (x8 : Int) (A6 : Option Addr) (cp7 : Nat), sha_Text.l0 a0 k x5 x8 = some r1 ∧ Fr 22 [(3, .slice A6 x5.length cp7), (6, .agg (cA (Value.int .u8) a0).toArray), (7, .int .i64 x8)] a ∧ Inv w0 Z w (star (ownS 5 (cI .u8) 1 A6 cp7 x5) A)) ?_ FU a w ⟨([] : List Int), 0, none, 0, h1, ha.keep [3, 6, 7] (by kernel_rfl), hI⟩)
    clear h1 hI
    rintro k a w ⟨x5, x8, A6, cp7, h1, ha, hI⟩
    rcases k with _ | k
    · cases h1
    simp only [sha_Text.l0] at h1
    refine CodT.of ?_ ha
    refine CodT.seq ?_
    refine CodT.regionL [0] (by kernel_rfl) ?_
    refine OpsT.pures (r := []) [0] [3, 6, 7, 8] (S' := [(3, .slice A6 x5.length cp7), (6, .agg (cA (Value.int .u8) a0).toArray), (7, .int .i64 x8), (8, .bool (decide (x8 < 32)))]) (by kernel_rfl) ?_
    refine OpsT.done ?_
    refine Qn.then ?_
    refine CodT.seq ?_
    by_cases hb9 : (decide (x8 < 32)) = true
    · rw [if_pos hb9] at h1
      refine CodT.yes' (b := decide (x8 < 32)) (by kernel_rfl) hb9 ?_
      refine CodT.skip ?_
      refine Qn.then ?_
      refine CodT.seq ?_
      refine CodT.block ?_
      refine CodT.seq ?_
      refine CodT.regionL [0, 1] (by kernel_rfl) ?_
      obtain ⟨hg10, h1⟩ := guardS h1
      refine OpsT.cons (Does.yi (Yl.indexAgg (d := 9) (T := 24) (k := .i64) (j := x8) (l := cA (Value.int .u8) a0) (v := .int .u8 (gt a0 x8)) (by kernel_rfl) Go.Proofs.Try.underlying24 ty5 hg10.1 hg10.2 (arr_get' _ _ hg10.1 (by have := And.intro hl_a0 hg10.2; omega))) hI ?_)
      refine OpsT.pures (r := []) [1] [3, 5, 6, 7] (S' := [(3, .slice A6 x5.length cp7), (5, .int .u8 (gt a0 x8)), (6, .agg (cA (Value.int .u8) a0).toArray), (7, .int .i64 x8)]) (by kernel_rfl) ?_
      refine OpsT.done ?_
      refine Qn.then ?_
      refine CodT.drawI (n := 10) [8] (by kernel_rfl) (by kernel_rfl) hI ?_
      intro w hI
      refine GmT.p' 0 10 (.slice A6 x5.length cp7) (by kernel_rfl) (by kernel_rfl) ?_
      refine GmT.p' 1 11 (.int .u8 (gt a0 x8)) (by kernel_rfl) (by kernel_rfl) ?_
      refine GmT.p' 2 12 (.int .u8 (bShr .u8 (gt a0 x8) 4)) (by kernel_rfl) (by kernel_rfl) ?_
      refine GmT.p' 4 14 (.int .u8 (gt a0 x8)) (by kernel_rfl) (by kernel_rfl) ?_
      refine GmT.p' 5 15 (.int .u8 (bAnd .u8 (gt a0 x8) 15)) (by kernel_rfl) (by kernel_rfl) ?_
      obtain ⟨hg11, h1⟩ := guardS h1
      refine GmT.r (i := 3) 3 (by kernel_rfl) (by kernel_rfl) (Yl.indexStr (d := 13) (T := 9) (k := .u8) (j := bShr .u8 (gt a0 x8) 4) (s := (⟨#[48, 49, 50, 51, 52, 53, 54, 55, 56, 57, 97, 98, 99, 100, 101, 102]⟩ : ByteArray)) (by kernel_rfl) Go.Proofs.Try.underlying9 hg11.1 hg11.2) hI ?_
      obtain ⟨hg12, h1⟩ := guardS h1
      refine GmT.r (i := 6) 3 (by kernel_rfl) (by kernel_rfl) (Yl.indexStr (d := 16) (T := 9) (k := .u8) (j := bAnd .u8 (gt a0 x8) 15) (s := (⟨#[48, 49, 50, 51, 52, 53, 54, 55, 56, 57, 97, 98, 99, 100, 101, 102]⟩ : ByteArray)) (by kernel_rfl) Go.Proofs.Try.underlying9 hg12.1 hg12.2) hI ?_
      refine GmT.o (i := 7) (by kernel_rfl) (Does.buildSlice (en := (cI .u8)) (d := 17) (n := 2) (T := 41) (ps := [(0, .int .u8 (bt (⟨#[48, 49, 50, 51, 52, 53, 54, 55, 56, 57, 97, 98, 99, 100, 101, 102]⟩ : ByteArray) (bShr .u8 (gt a0 x8) 4))), (1, .int .u8 (bt (⟨#[48, 49, 50, 51, 52, 53, 54, 55, 56, 57, 97, 98, 99, 100, 101, 102]⟩ : ByteArray) (bAnd .u8 (gt a0 x8) 15)))]) ([bt (⟨#[48, 49, 50, 51, 52, 53, 54, 55, 56, 57, 97, 98, 99, 100, 101, 102]⟩ : ByteArray) (bShr .u8 (gt a0 x8) 4), bt (⟨#[48, 49, 50, 51, 52, 53, 54, 55, 56, 57, 97, 98, 99, 100, 101, 102]⟩ : ByteArray) (bAnd .u8 (gt a0 x8) 15)] : List Int) (by kernel_rfl) Go.Proofs.Try.underlying41 ty5 (by kernel_rfl) (by kernel_rfl) (by kernel_rfl) (by kernel_rfl) (len_all (fun _ => rfl)) hI ?_)
      intro b13 w hI
      have hC := hI
      have hC := hC.drop
      refine ⟨fun _ _ => hC, ?_⟩
      obtain ⟨hg14, h1⟩ := guardS h1
      have hI := hI.mono (pick2 _ _ _)
      refine GmT.o (i := 8) (by kernel_rfl) (Does.append (d := 18) (t := 41) (tx := 41) (ty := 41) (ys := x5) (zs := ([bt (⟨#[48, 49, 50, 51, 52, 53, 54, 55, 56, 57, 97, 98, 99, 100, 101, 102]⟩ : ByteArray) (bShr .u8 (gt a0 x8) 4), bt (⟨#[48, 49, 50, 51, 52, 53, 54, 55, 56, 57, 97, 98, 99, 100, 101, 102]⟩ : ByteArray) (bAnd .u8 (gt a0 x8) 15)] : List Int)) (x := .slice (some ⟨b13, 0, none⟩) (([bt (⟨#[48, 49, 50, 51, 52, 53, 54, 55, 56, 57, 97, 98, 99, 100, 101, 102]⟩ : ByteArray) (bShr .u8 (gt a0 x8) 4), bt (⟨#[48, 49, 50, 51, 52, 53, 54, 55, 56, 57, 97, 98, 99, 100, 101, 102]⟩ : ByteArray) (bAnd .u8 (gt a0 x8) 15)] : List Int).length) 2) (by kernel_rfl) Go.Proofs.Try.underlying41 ty5 (by kernel_rfl) hI (src_own Go.Proofs.Try.underlying41 (hI.mono (pick2 _ _ _)) (one_flat _ (fun _ => rfl))) (ownS_facts (hI.mono (pick2 _ _ _))).2.2 (by unfold LIM at hg14; omega) hg14 ?_)
      intro A15 cp16 w hI
      refine ⟨fun h => absurd h (by decide), ?_⟩
      refine GmT.p' 9 3 (.slice A15 ((x5 ++ ([bt (⟨#[48, 49, 50, 51, 52, 53, 54, 55, 56, 57, 97, 98, 99, 100, 101, 102]⟩ : ByteArray) (bShr .u8 (gt a0 x8) 4), bt (⟨#[48, 49, 50, 51, 52, 53, 54, 55, 56, 57, 97, 98, 99, 100, 101, 102]⟩ : ByteArray) (bAnd .u8 (gt a0 x8) 15)] : List Int)).length) cp16) (by kernel_rfl) (by kernel_rfl) ?_
      refine GmT.done (by kernel_rfl) ?_
      refine Qn.block_normal ?_
      refine Qn.then ?_
      refine CodT.regionL [0, 1] (by kernel_rfl) ?_
      refine OpsT.pures (r := []) [0, 1] [3, 6, 7] (S' := [(3, .slice A15 ((x5 ++ ([bt (⟨#[48, 49, 50, 51, 52, 53, 54, 55, 56, 57, 97, 98, 99, 100, 101, 102]⟩ : ByteArray) (bShr .u8 (gt a0 x8) 4), bt (⟨#[48, 49, 50, 51, 52, 53, 54, 55, 56, 57, 97, 98, 99, 100, 101, 102]⟩ : ByteArray) (bAnd .u8 (gt a0 x8) 15)] : List Int)).length) cp16), (6, .agg (cA (Value.int .u8) a0).toArray), (7, .int .i64 (wi64 (x8 + 1)))]) (by kernel_rfl) ?_
      refine OpsT.done ?_
      have hI := hI.mono (pick2 _ _ _)
      have hI := hI.drop
      exact Qn.thenJ fun a ha => ⟨k, Nat.lt_succ_self k, x5 ++ ([bt (⟨#[48, 49, 50, 51, 52, 53, 54, 55, 56, 57, 97, 98, 99, 100, 101, 102]⟩ : ByteArray) (bShr .u8 (gt a0 x8) 4), bt (⟨#[48, 49, 50, 51, 52, 53, 54, 55, 56, 57, 97, 98, 99, 100, 101, 102]⟩ : ByteArray) (bAnd .u8 (gt a0 x8) 15)] : List Int), wi64 (x8 + 1), A15, cp16, h1, ha.keep [3, 6, 7] (by kernel_rfl), hI⟩
    · rw [if_neg hb9] at h1
      refine CodT.no' (b := decide (x8 < 32)) (by kernel_rfl) (by simpa using hb9) ?_
      refine CodT.exit ?_
      refine Qn.exit_then ?_
      refine Qn.exit_then ?_
      refine Qn.block ?_
      have e := someS h1
      subst e
      exact Qn.thenJ fun a ha => ⟨x5, A6, cp7, rfl, ha.keep [3] (by kernel_rfl), hI⟩
  ·
    rintro a w ⟨x2, A3, cp4, rfl, ha, hI⟩
    try dsimp only at h0
    refine Qn.of ?_ ha
    refine Qn.then ?_
    refine CodT.seq ?_
    refine CodT.regionL [0, 1, 2] (by kernel_rfl) ?_
    refine OpsT.pures (r := [1, 2]) [0] [20] (S' := [(20, .slice A3 x2.length cp4)]) (by kernel_rfl) ?_
    refine OpsT.cons (Does.b2sOwn (d := 21) (src := 41) (dst := 9) (xs := x2) (by kernel_rfl) Go.Proofs.Try.underlying41 Go.Proofs.Try.underlying5 Go.Proofs.Try.underlying9 hI ?_)
    refine OpsT.pures (r := []) [2] [2] (S' := [(2, .string (strOfNums x2))]) (by kernel_rfl) ?_
    refine OpsT.done ?_
    refine Qn.then ?_
    refine CodT.ret ?_
    have hI := hI.drop
    have e := someS h0
    subst e
    refine Qn.keep [2] (S' := [(2, .string (strOfNums x2))]) (by kernel_rfl) ?_
    exact post_ret (v := .string (strOfNums x2)) (fun a ha => RunRes.run (vs := [.string (strOfNums x2)]) (.tmp (t := 2) (by kernel_rfl) .nil) ha (by kernel_rfl)) ⟨rfl, hI⟩
set_option maxRecDepth 100000 in
set_option maxHeartbeats 4000000 in
/-- (cenotaph/event.sum).show -/
theorem c99 (w0 w : World) (Z : Hp) (A : HP) (hI : Inv w0 Z w A) (a0 : (List Int)) (hl_a0 : a0.length = 32) (r : ByteArray) (h0 : event_sum_show a0 = some r) :
    Calls prog 99 #[.agg (cA (Value.int .u8) a0).toArray] w (fun e w' => e = .returned (.string r) ∧ Inv w0 Z w' A) := by
  have e4 := calls_intro (R := (fun e w' => e = .returned (.string r) ∧ Inv w0 Z w' A)) (w := w) (args := [.agg (cA (Value.int .u8) a0).toArray]) (fn := Go.Proofs.Try.f99) 6 Go.Proofs.Try.func99 (by rfl) Go.Proofs.Try.ntmps99 (by kernel_rfl)
  refine e4 ?_
  clear e4
  unfold event_sum_show at h0
  refine CodT.seq ?_
  refine CodT.regionL [0, 1] (by kernel_rfl) ?_
  refine OpsT.cons (Does.boxL (d := 1) (T := 71) (v := .agg (cA (Value.int .u8) a0).toArray) (cA (Value.int .u8) a0) (by kernel_rfl) hI (by kernel_rfl) ?_)
  intro b1 w hI
  refine OpsT.pures (r := []) [1] [1] (S' := [(1, .pointer (some ⟨b1, 0, none⟩))]) (by kernel_rfl) ?_
  refine OpsT.done ?_
  refine Qn.then ?_
  refine CodT.seq ?_
  refine CodT.regionL [0, 1, 2, 3] (by kernel_rfl) ?_
  refine OpsT.cons (Does.yi (Yl.load (d := 3) (T := 71) (v := .agg (cA (Value.int .u8) a0).toArray) (by kernel_rfl) (ldBN ty71 (l := cA (Value.int .u8) a0) (o := 0) (cs := cA (Value.int .u8) a0) (ent_refl _) ((cA_length _ _).trans hl_a0) (whole _ _ ((cA_length _ _).trans hl_a0)))) hI ?_)
  obtain ⟨y3, hc2, h0⟩ := bindS h0
  try dsimp only at h0
  refine OpsT.cons (Does.call (d := some 4) (n := 101) (vs := [.agg (cA (Value.int .u8) a0).toArray]) (by kernel_rfl) en101 (c101 w0 w _ _ hI a0 hl_a0 _ hc2) ?_)
  rintro e w ⟨rfl, hI⟩
  refine ⟨_, rfl, ?_⟩
  obtain ⟨hg4, h0⟩ := guardS h0
  refine OpsT.cons (Does.yi (Yl.sliceStr01 (d := 5) (T := 9) (s := y3) (hi := 8) (by kernel_rfl) Go.Proofs.Try.underlying9 hg4) hI ?_)
  refine OpsT.pures (r := []) [3] [2] (S' := [(2, .string (sx y3 0 8))]) (by kernel_rfl) ?_
  refine OpsT.done ?_
  refine Qn.then ?_
  refine CodT.ret ?_
  have hI := hI.drop
  have e := someS h0
  subst e
  refine Qn.keep [2] (S' := [(2, .string (sx y3 0 8))]) (by kernel_rfl) ?_
  exact post_ret (v := .string (sx y3 0 8)) (fun a ha => RunRes.run (vs := [.string (sx y3 0 8)]) (.tmp (t := 2) (by kernel_rfl) .nil) ha (by kernel_rfl)) ⟨rfl, hI⟩
set_option maxRecDepth 100000 in
set_option maxHeartbeats 4000000 in
/-- cenotaph/event.Show -/
theorem c14 (w0 w : World) (Z : Hp) (A : HP) (hI : Inv w0 Z w A) (a0 : ApiEvent) (hl1 : a0.Sum.length = 32) (r : ByteArray) (h0 : event_Show a0 = some r) :
    Calls prog 14 #[.agg (c_ApiEvent a0).toArray] w (fun e w' => e = .returned (.string r) ∧ Inv w0 Z w' A) := by
  have e4 := calls_intro (R := (fun e w' => e = .returned (.string r) ∧ Inv w0 Z w' A)) (w := w) (args := [.agg (c_ApiEvent a0).toArray]) (fn := Go.Proofs.Try.f14) 27 Go.Proofs.Try.func14 (by rfl) Go.Proofs.Try.ntmps14 (by kernel_rfl)
  refine e4 ?_
  clear e4
  unfold event_Show at h0
  refine CodT.seq ?_
  refine CodT.regionL [0, 1] (by kernel_rfl) ?_
  refine OpsT.cons (Does.boxL (d := 1) (T := 26) (v := .agg (c_ApiEvent a0).toArray) (c_ApiEvent a0) (by kernel_rfl) hI (by kernel_rfl) ?_)
  intro b2 w hI
  refine OpsT.pures (r := []) [1] [1] (S' := [(1, .pointer (some ⟨b2, 0, none⟩))]) (by kernel_rfl) ?_
  refine OpsT.done ?_
  refine Qn.then ?_
  refine CodT.seq ?_
  refine CodT.seq ?_
  refine CodT.regionL [0, 1, 2] (by kernel_rfl) ?_
  refine OpsT.cons (Does.yi (Yl.load (d := 6) (T := 26) (v := .agg (c_ApiEvent a0).toArray) (by kernel_rfl) (ldBN ty26 (l := c_ApiEvent a0) (o := 0) (cs := c_ApiEvent a0) (ent_refl _) (len_ApiEvent _ hl1) (whole _ _ (len_ApiEvent _ hl1)))) hI ?_)
  obtain ⟨y4, hc3, h0⟩ := bindS h0
  try dsimp only at h0
  refine OpsT.cons (Does.call (d := some 7) (n := 13) (vs := [.agg (c_ApiEvent a0).toArray]) (by kernel_rfl) en13 (c13 w0 w _ _ hI a0 hl1 _ hc3) ?_)
  rintro e w ⟨rfl, hI⟩
  refine ⟨_, rfl, ?_⟩
  refine OpsT.pures (r := []) [2] [1, 8] (S' := [(1, .pointer (some ⟨b2, 0, none⟩)), (8, .bool (!y4))]) (by kernel_rfl) ?_
  refine OpsT.done ?_
  refine Qn.then ?_
  by_cases hb5 : (!y4) = true
  · rw [if_pos hb5] at h0
    refine CodT.yes' (b := !y4) (by kernel_rfl) hb5 ?_
    refine CodT.seq ?_
    refine CodT.regionL [0] (by kernel_rfl) ?_
    refine OpsT.pures (r := []) [0] [2] (S' := [(2, .string (⟨#[63]⟩ : ByteArray))]) (by kernel_rfl) ?_
    refine OpsT.done ?_
    refine Qn.then ?_
    refine CodT.ret ?_
    refine Qn.ret_then ?_
    have hI := hI.drop
    have e := someS h0
    subst e
    refine Qn.keep [2] (S' := [(2, .string (⟨#[63]⟩ : ByteArray))]) (by kernel_rfl) ?_
    exact post_ret (v := .string (⟨#[63]⟩ : ByteArray)) (fun a ha => RunRes.run (vs := [.string (⟨#[63]⟩ : ByteArray)]) (.tmp (t := 2) (by kernel_rfl) .nil) ha (by kernel_rfl)) ⟨rfl, hI⟩
  · rw [if_neg hb5] at h0
    refine CodT.no' (b := !y4) (by kernel_rfl) (by simpa using hb5) ?_
    refine CodT.skip ?_
    refine Qn.then ?_
    refine CodT.seq ?_
    refine CodT.drawI (n := 5) [] (by kernel_rfl) (by kernel_rfl) hI ?_
    intro w hI
    refine GmT.p' 1 10 (.pointer (some ⟨b2, 0, none⟩)) (by kernel_rfl) (by kernel_rfl) ?_
    refine GmT.r (i := 2) 2 (by kernel_rfl) (by kernel_rfl) (Yl.load (d := 11) (T := 22) (v := .int .i64 a0.Kind) (by kernel_rfl) (ldB ty22 (l := c_ApiEvent a0) (o := 0) (v := .int .i64 a0.Kind) (ent_refl _) (by kernel_rfl))) hI ?_
    obtain ⟨y7, hc6, h0⟩ := bindS h0
    try dsimp only at h0
    refine GmT.o (i := 0) (by kernel_rfl) (Does.call (d := some 9) (n := 29) (vs := []) (by kernel_rfl) en29 (c29 w0 w _ _ hI _ hc6) ?_)
    rintro e w ⟨rfl, hl8, hI⟩
    refine ⟨_, rfl, ?_⟩
    refine ⟨fun _ _ => hI, ?_⟩
    obtain ⟨hg9, h0⟩ := guardS h0
    refine GmT.r (i := 3) 2 (by kernel_rfl) (by kernel_rfl) (Yl.indexAgg (d := 12) (T := 56) (k := .i64) (j := a0.Kind) (l := cA Value.string y7) (v := .string (gt y7 a0.Kind)) (by kernel_rfl) Go.Proofs.Try.underlying56 ty9 hg9.1 hg9.2 (arr_get' _ _ hg9.1 (by have := And.intro hl8 hg9.2; omega))) hI ?_
    refine GmT.p' 4 3 (.string (gt y7 a0.Kind)) (by kernel_rfl) (by kernel_rfl) ?_
    refine GmT.done (by kernel_rfl) ?_
    refine Qn.then ?_
    refine CodT.seq ?_
    refine CodT.seq ?_
    refine CodT.regionL [0, 1, 2, 3] (by kernel_rfl) ?_
    refine OpsT.cons (Does.yi (Yl.load (d := 13) (T := 26) (v := .agg (c_ApiEvent a0).toArray) (by kernel_rfl) (ldBN ty26 (l := c_ApiEvent a0) (o := 0) (cs := c_ApiEvent a0) (ent_refl _) (len_ApiEvent _ hl1) (whole _ _ (len_ApiEvent _ hl1)))) hI ?_)
    obtain ⟨y11, hc10, h0⟩ := bindS h0
    try dsimp only at h0
    refine OpsT.cons (Does.call (d := some 14) (n := 20) (vs := [.agg (c_ApiEvent a0).toArray]) (by kernel_rfl) en20 (c20 w0 w _ _ hI a0 hl1 _ hc10) ?_)
    rintro e w ⟨A12, cp13, rfl, hI⟩
    refine ⟨_, rfl, ?_⟩
    refine OpsT.pures (r := []) [2, 3] [3, 14, 15, 16] (S' := [(3, .string (gt y7 a0.Kind)), (14, .slice A12 y11.length cp13), (15, .int .i64 (y11.length : Int)), (16, .int .i64 0)]) (by kernel_rfl) ?_
    refine OpsT.done ?_
    refine Qn.then ?_
    obtain ⟨r1, h1, h0⟩ := bindS h0
    refine CodT.meet1 (fun a w => ∃ (x14 : ByteArray), x14 = r1 ∧ Fr 27 [(3, .string x14)] a ∧ Inv w0 Z w A) ?_ ?_
    ·
      refine CodT.block ?_
      have hI := hI.mono (pick2 _ _ _)
      have hI := hI.drop
      refine (fun a ha => wp_loopN (fun k a w => ∃ (x15 : ByteArray) (x16 : Int), event_Show.l0 y11 k x15 x16 = some r1 ∧ Fr 27 [(3, .string x15), (14, .slice A12 y11.length cp13), (15, .int .i64 (y11.length : Int)), (16, .int .i64 x16)] a ∧ Inv w0 Z w (star (ownS 46 cD46 1 A12 cp13 y11) A)) ?_ FU a w ⟨gt y7 a0.Kind, 0, h1, ha.keep [3, 14, 15, 16] (by kernel_rfl), hI⟩)
      clear h1 hI
      rintro k a w ⟨x15, x16, h1, ha, hI⟩
      rcases k with _ | k
      · cases h1
      simp only [event_Show.l0] at h1
      refine CodT.of ?_ ha
      refine CodT.seq ?_
      refine CodT.regionL [0] (by kernel_rfl) ?_
      refine OpsT.pures (r := []) [0] [3, 14, 15, 16, 17] (S' := [(3, .string x15), (14, .slice A12 y11.length cp13), (15, .int .i64 (y11.length : Int)), (16, .int .i64 x16), (17, .bool (decide (x16 < (y11.length : Int))))]) (by kernel_rfl) ?_
      refine OpsT.done ?_
      refine Qn.then ?_
      refine CodT.seq ?_
      by_cases hb17 : (decide (x16 < (y11.length : Int))) = true
      · rw [if_pos hb17] at h1
        refine CodT.yes' (b := decide (x16 < (y11.length : Int))) (by kernel_rfl) hb17 ?_
        refine CodT.skip ?_
        refine Qn.then ?_
        obtain ⟨r2, h2, h1⟩ := bindS h1
        refine CodT.meet (fun a w => ∃ (x18 : ByteArray), x18 = r2 ∧ Fr 27 [(3, .string x18), (14, .slice A12 y11.length cp13), (15, .int .i64 (y11.length : Int)), (16, .int .i64 x16)] a ∧ Inv w0 Z w (star (ownS 46 cD46 1 A12 cp13 y11) A)) ?_ ?_
        ·
          refine CodT.block ?_
          refine CodT.seq ?_
          refine CodT.regionL [0, 1, 2] (by kernel_rfl) ?_
          obtain ⟨hg19, h2⟩ := guardS h2
          obtain ⟨g20, hA21, hr22, hl23⟩ := ownS_get hI hg19.1 hg19.2
          refine OpsT.cons (Does.yi (Yl.indexSlice (d := 18) (T := 43) (cc := cp13) (k := .i64) (j := x16) (g := g20) (o := 0) (by kernel_rfl) Go.Proofs.Try.underlying43 ty46 hA21 hg19.1 hg19.2) hI ?_)
          refine OpsT.cons (Does.yi (Yl.load (d := 19) (T := 46) (v := dynV46 (gt y11 x16)) (by kernel_rfl) (ldR ty46 (v := dynV46 (gt y11 x16)) 0 (fun w hC => hr22 w0 w _ hC) (by kernel_rfl))) hI ?_)
          refine OpsT.pures (r := []) [2] [3, 5, 14, 15, 16] (S' := [(3, .string x15), (5, dynV46 (gt y11 x16)), (14, .slice A12 y11.length cp13), (15, .int .i64 (y11.length : Int)), (16, .int .i64 x16)]) (by kernel_rfl) ?_
          refine OpsT.done ?_
          refine Qn.then ?_
          refine CodT.regionL [0, 1, 2, 3, 4, 5] (by kernel_rfl) ?_
          refine OpsT.pures (r := [2, 3, 4, 5]) [0, 1] [14, 15, 16, 20, 21] (S' := [(14, .slice A12 y11.length cp13), (15, .int .i64 (y11.length : Int)), (16, .int .i64 x16), (20, .string x15), (21, dynV46 (gt y11 x16))]) (by kernel_rfl) ?_
          rcases hd24 : gt y11 x16 with _ | z25 | z26 | z27
          ·
            simp only [hd24] at h2
            all_goals cases h2
          ·
            simp only [hd24] at h2
            refine OpsT.keep [14, 15, 16, 20, 21] (S' := [(14, .slice A12 y11.length cp13), (15, .int .i64 (y11.length : Int)), (16, .int .i64 x16), (20, .string x15), (21, .iface 53 (.string z25))]) (by (try simp only [hd24]); kernel_rfl) ?_
            obtain ⟨y29, hc28, h2⟩ := bindS h2
            try dsimp only at h2
            refine OpsT.cons (Does.invoke (nm := "cenotaph/event.show") (u := .iface 53 (.string z25)) (d := some 22) (n := 68) (vs := []) (by kernel_rfl) [.string z25] (fun _ => by kernel_rfl) (c68 w0 w _ _ hI z25 _ hc28) ?_)
            rintro e w ⟨rfl, hI⟩
            refine ⟨_, rfl, ?_⟩
            obtain ⟨hg30, h2⟩ := guardS h2
            refine OpsT.cons (Does.yi (Yl.cat (d := 23) (T := 9) (x := (⟨#[32]⟩ : ByteArray)) (y := y29) (by kernel_rfl) hg30) hI ?_)
            obtain ⟨hg31, h2⟩ := guardS h2
            refine OpsT.cons (Does.yi (Yl.cat (d := 24) (T := 9) (x := x15) (y := (⟨#[32]⟩ : ByteArray) ++ y29) (by kernel_rfl) hg31) hI ?_)
            refine OpsT.pures (r := []) [5] [3, 14, 15, 16] (S' := [(3, .string (x15 ++ ((⟨#[32]⟩ : ByteArray) ++ y29))), (14, .slice A12 y11.length cp13), (15, .int .i64 (y11.length : Int)), (16, .int .i64 x16)]) (by kernel_rfl) ?_
            refine OpsT.done ?_
            refine Qn.block_normal ?_
            have e := someS h2
            subst e
            exact Qn.thenJ fun a ha => ⟨x15 ++ ((⟨#[32]⟩ : ByteArray) ++ y29), rfl, ha.keep [3, 14, 15, 16] (by kernel_rfl), hI⟩
          ·
            simp only [hd24] at h2
            refine OpsT.keep [14, 15, 16, 20, 21] (S' := [(14, .slice A12 y11.length cp13), (15, .int .i64 (y11.length : Int)), (16, .int .i64 x16), (20, .string x15), (21, .iface 68 (.int .i64 z26))]) (by (try simp only [hd24]); kernel_rfl) ?_
            obtain ⟨y33, hc32, h2⟩ := bindS h2
            try dsimp only at h2
            refine OpsT.cons (Does.invoke (nm := "cenotaph/event.show") (u := .iface 68 (.int .i64 z26)) (d := some 22) (n := 83) (vs := []) (by kernel_rfl) [.int .i64 z26] (fun _ => by kernel_rfl) (c83 w0 w _ _ hI z26 _ hc32) ?_)
            rintro e w ⟨rfl, hI⟩
            refine ⟨_, rfl, ?_⟩
            obtain ⟨hg34, h2⟩ := guardS h2
            refine OpsT.cons (Does.yi (Yl.cat (d := 23) (T := 9) (x := (⟨#[32]⟩ : ByteArray)) (y := y33) (by kernel_rfl) hg34) hI ?_)
            obtain ⟨hg35, h2⟩ := guardS h2
            refine OpsT.cons (Does.yi (Yl.cat (d := 24) (T := 9) (x := x15) (y := (⟨#[32]⟩ : ByteArray) ++ y33) (by kernel_rfl) hg35) hI ?_)
            refine OpsT.pures (r := []) [5] [3, 14, 15, 16] (S' := [(3, .string (x15 ++ ((⟨#[32]⟩ : ByteArray) ++ y33))), (14, .slice A12 y11.length cp13), (15, .int .i64 (y11.length : Int)), (16, .int .i64 x16)]) (by kernel_rfl) ?_
            refine OpsT.done ?_
            refine Qn.block_normal ?_
            have e := someS h2
            subst e
            exact Qn.thenJ fun a ha => ⟨x15 ++ ((⟨#[32]⟩ : ByteArray) ++ y33), rfl, ha.keep [3, 14, 15, 16] (by kernel_rfl), hI⟩
          ·
            simp only [hd24] at h2
            obtain ⟨hg36, h2⟩ := guardS h2
            refine OpsT.keep [14, 15, 16, 20, 21] (S' := [(14, .slice A12 y11.length cp13), (15, .int .i64 (y11.length : Int)), (16, .int .i64 x16), (20, .string x15), (21, .iface 71 (.agg (cA (Value.int .u8) z27).toArray))]) (by (try simp only [hd24]); kernel_rfl) ?_
            obtain ⟨y38, hc37, h2⟩ := bindS h2
            try dsimp only at h2
            refine OpsT.cons (Does.invoke (nm := "cenotaph/event.show") (u := .iface 71 (.agg (cA (Value.int .u8) z27).toArray)) (d := some 22) (n := 99) (vs := []) (by kernel_rfl) [.agg (cA (Value.int .u8) z27).toArray] (fun _ => by kernel_rfl) (c99 w0 w _ _ hI z27 hg36 _ hc37) ?_)
            rintro e w ⟨rfl, hI⟩
            refine ⟨_, rfl, ?_⟩
            obtain ⟨hg39, h2⟩ := guardS h2
            refine OpsT.cons (Does.yi (Yl.cat (d := 23) (T := 9) (x := (⟨#[32]⟩ : ByteArray)) (y := y38) (by kernel_rfl) hg39) hI ?_)
            obtain ⟨hg40, h2⟩ := guardS h2
            refine OpsT.cons (Does.yi (Yl.cat (d := 24) (T := 9) (x := x15) (y := (⟨#[32]⟩ : ByteArray) ++ y38) (by kernel_rfl) hg40) hI ?_)
            refine OpsT.pures (r := []) [5] [3, 14, 15, 16] (S' := [(3, .string (x15 ++ ((⟨#[32]⟩ : ByteArray) ++ y38))), (14, .slice A12 y11.length cp13), (15, .int .i64 (y11.length : Int)), (16, .int .i64 x16)]) (by kernel_rfl) ?_
            refine OpsT.done ?_
            refine Qn.block_normal ?_
            have e := someS h2
            subst e
            exact Qn.thenJ fun a ha => ⟨x15 ++ ((⟨#[32]⟩ : ByteArray) ++ y38), rfl, ha.keep [3, 14, 15, 16] (by kernel_rfl), hI⟩
        ·
          rintro a w ⟨x18, rfl, ha, hI⟩
          try dsimp only at h1
          refine CodT.of ?_ ha
          refine CodT.regionL [0, 1] (by kernel_rfl) ?_
          refine OpsT.pures (r := []) [0, 1] [3, 14, 15, 16] (S' := [(3, .string x18), (14, .slice A12 y11.length cp13), (15, .int .i64 (y11.length : Int)), (16, .int .i64 (wi64 (x16 + 1)))]) (by kernel_rfl) ?_
          refine OpsT.done ?_
          exact Qn.thenJ fun a ha => ⟨k, Nat.lt_succ_self k, x18, wi64 (x16 + 1), h1, ha.keep [3, 14, 15, 16] (by kernel_rfl), hI⟩
      · rw [if_neg hb17] at h1
        refine CodT.no' (b := decide (x16 < (y11.length : Int))) (by kernel_rfl) (by simpa using hb17) ?_
        refine CodT.exit ?_
        refine Qn.exit_then ?_
        refine Qn.exit_then ?_
        refine Qn.block ?_
        have hI := hI.drop
        have e := someS h1
        subst e
        exact Qn.thenJ fun a ha => ⟨x15, rfl, ha.keep [3] (by kernel_rfl), hI⟩
    ·
      rintro a w ⟨x14, rfl, ha, hI⟩
      try dsimp only at h0
      refine Qn.of ?_ ha
      refine Qn.then ?_
      refine CodT.seq ?_
      refine CodT.regionL [0, 1] (by kernel_rfl) ?_
      refine OpsT.pures (r := []) [0, 1] [2] (S' := [(2, .string x14)]) (by kernel_rfl) ?_
      refine OpsT.done ?_
      refine Qn.then ?_
      refine CodT.ret ?_
      have e := someS h0
      subst e
      refine Qn.keep [2] (S' := [(2, .string x14)]) (by kernel_rfl) ?_
      exact post_ret (v := .string x14) (fun a ha => RunRes.run (vs := [.string x14]) (.tmp (t := 2) (by kernel_rfl) .nil) ha (by kernel_rfl)) ⟨rfl, hI⟩
end Go.Cen
