/- That the machine computes these: walks, printed by a program of ours. -/
import Derived.Test.YthdoklobbcedcabPx
import Derived.Test.YthdoklobbcedcabWx3
set_option linter.unusedVariables false
set_option linter.unusedSimpArgs false
namespace Go.Cen
set_option maxRecDepth 100000 in
set_option maxHeartbeats 4000000 in
/-- cenotaph/cenotaphref02.Link -/
theorem c75 (w0 w : World) (Z : Hp) (A : HP) (hI : Inv w0 Z w A) (a0 : (List Int)) (hl_a0 : a0.length = 32) (a1 : ByteArray) (r : (List Int)) (h0 : ref02_Link a0 a1 = some r) :
    Calls prog 75 #[.agg (cA (Value.int .u8) a0).toArray, .string a1] w (fun e w' => e = .returned (.agg (cA (Value.int .u8) r).toArray) ∧ r.length = 32 ∧ Inv w0 Z w' A) := by
  have e4 := calls_intro (R := (fun e w' => e = .returned (.agg (cA (Value.int .u8) r).toArray) ∧ r.length = 32 ∧ Inv w0 Z w' A)) (w := w) (args := [.agg (cA (Value.int .u8) a0).toArray, .string a1]) (fn := Go.Proofs.Try.f75) 10 Go.Proofs.Try.func75 (by rfl) Go.Proofs.Try.ntmps75 (by kernel_rfl)
  refine e4 ?_
  clear e4
  unfold ref02_Link at h0
  refine CodT.seq ?_
  refine CodT.regionL [0, 1] (by kernel_rfl) ?_
  refine OpsT.cons (Does.boxL (d := 2) (T := 55) (v := .agg (cA (Value.int .u8) a0).toArray) (cA (Value.int .u8) a0) (by kernel_rfl) hI (by kernel_rfl) ?_)
  intro b1 w hI
  refine OpsT.cons (Does.allocL (d := 4) (T := 55) (cA (Value.int .u8) (List.replicate 32 (0 : Int))) (by kernel_rfl) ty55 hI (by kernel_rfl) ?_)
  intro b2 w hI
  refine OpsT.done ?_
  refine Qn.then ?_
  refine CodT.seq ?_
  refine CodT.regionL [0, 1, 2, 3, 4, 5] (by kernel_rfl) ?_
  refine OpsT.cons (Does.yi (Yl.load (d := 5) (T := 55) (v := .agg (cA (Value.int .u8) a0).toArray) (by kernel_rfl) (ldBN ty55 (l := cA (Value.int .u8) a0) (o := 0) (cs := cA (Value.int .u8) a0) (pick2 _ _ _) ((cA_length _ _).trans hl_a0) (whole _ _ ((cA_length _ _).trans hl_a0)))) hI ?_)
  obtain ⟨y4, hc3, h0⟩ := bindS h0
  try dsimp only at h0
  refine OpsT.cons (Does.call (d := some 6) (n := 102) (vs := [.agg (cA (Value.int .u8) a0).toArray]) (by kernel_rfl) en102 (c102 w0 w _ _ hI a0 hl_a0 _ hc3) ?_)
  rintro e w ⟨rfl, hI⟩
  refine ⟨_, rfl, ?_⟩
  refine OpsT.pures (r := [3, 4, 5]) [2] [4, 6, 7] (S' := [(4, .pointer (some ⟨b2, 0, none⟩)), (6, .string y4), (7, .string a1)]) (by kernel_rfl) ?_
  obtain ⟨hg5, h0⟩ := guardS h0
  refine OpsT.cons (Does.yi (Yl.cat (d := 8) (T := 9) (x := y4) (y := a1) (by kernel_rfl) hg5) hI ?_)
  obtain ⟨y7, hc6, h0⟩ := bindS h0
  try dsimp only at h0
  refine OpsT.cons (Does.call (d := some 9) (n := 95) (vs := [.string (y4 ++ a1)]) (by kernel_rfl) en95 (c95 w0 w _ _ hI (y4 ++ a1) _ hc6) ?_)
  rintro e w ⟨rfl, hl8, hI⟩
  refine ⟨_, rfl, ?_⟩
  refine OpsT.cons (Does.storeAll (T := 55) (b := b2) (n := 32) (xs := (List.replicate 32 (0 : Int))) (ys := y7) (by kernel_rfl) ty55 hI (fun _ => rfl) (by kernel_rfl) hl8 ?_)
  intro w hI
  refine OpsT.done ?_
  refine Qn.then ?_
  refine CodT.ret ?_
  have hL9 := (ldBN ty55 (l := cA (Value.int .u8) y7) (o := 0) (cs := cA (Value.int .u8) y7) (ent_refl _) ((cA_length _ _).trans hl8) (whole _ _ ((cA_length _ _).trans hl8))) w hI
  have hI := hI.drop
  have hI := hI.drop
  have e := someS h0
  subst e
  refine Qn.keep [4] (S' := [(4, .pointer (some ⟨b2, 0, none⟩))]) (by kernel_rfl) ?_
  exact post_ret (v := .agg (cA (Value.int .u8) y7).toArray) (fun a ha => RunRes.run (vs := [.agg (cA (Value.int .u8) y7).toArray]) (.cell (t := 4) (T := 55) (ad := ⟨b2, 0, none⟩) (by kernel_rfl) hL9 .nil) ha (by kernel_rfl)) ⟨rfl, hl8, hI⟩
set_option maxRecDepth 100000 in
set_option maxHeartbeats 4000000 in
/-- cenotaph/cenotaphref06.Next -/
theorem c32 (w0 w : World) (Z : Hp) (A : HP) (hI : Inv w0 Z w A) (a0 : (List Int)) (hl_a0 : a0.length = 32) (a1 : ApiEvent) (hl1 : a1.Sum.length = 32) (r : ((List Int) × Bool)) (h0 : ref06_Next a0 a1 = some r) :
    Calls prog 32 #[.agg (cA (Value.int .u8) a0).toArray, .agg (c_ApiEvent a1).toArray] w (fun e w' => e = .returned (.tuple #[.agg (cA (Value.int .u8) r.1).toArray, .bool r.2]) ∧ r.1.length = 32 ∧ Inv w0 Z w' A) := by
  have e4 := calls_intro (R := (fun e w' => e = .returned (.tuple #[.agg (cA (Value.int .u8) r.1).toArray, .bool r.2]) ∧ r.1.length = 32 ∧ Inv w0 Z w' A)) (w := w) (args := [.agg (cA (Value.int .u8) a0).toArray, .agg (c_ApiEvent a1).toArray]) (fn := Go.Proofs.Try.f32) 19 Go.Proofs.Try.func32 (by rfl) Go.Proofs.Try.ntmps32 (by kernel_rfl)
  refine e4 ?_
  clear e4
  unfold ref06_Next at h0
  refine CodT.seq ?_
  refine CodT.regionL [0, 1, 2, 3] (by kernel_rfl) ?_
  refine OpsT.cons (Does.boxL (d := 2) (T := 55) (v := .agg (cA (Value.int .u8) a0).toArray) (cA (Value.int .u8) a0) (by kernel_rfl) hI (by kernel_rfl) ?_)
  intro b2 w hI
  refine OpsT.cons (Does.boxL (d := 3) (T := 65) (v := .agg (c_ApiEvent a1).toArray) (c_ApiEvent a1) (by kernel_rfl) hI (by kernel_rfl) ?_)
  intro b3 w hI
  refine OpsT.cons (Does.allocL (d := 4) (T := 55) (cA (Value.int .u8) (List.replicate 32 (0 : Int))) (by kernel_rfl) ty55 hI (by kernel_rfl) ?_)
  intro b4 w hI
  refine OpsT.pures (r := []) [3] [2, 3, 4] (S' := [(2, .pointer (some ⟨b2, 0, none⟩)), (3, .pointer (some ⟨b3, 0, none⟩)), (4, .pointer (some ⟨b4, 0, none⟩))]) (by kernel_rfl) ?_
  refine OpsT.done ?_
  refine Qn.then ?_
  refine CodT.seq ?_
  refine CodT.regionL [0, 1, 2, 3, 4, 5, 6] (by kernel_rfl) ?_
  refine OpsT.cons (Does.yi (Yl.load (d := 9) (T := 65) (v := .agg (c_ApiEvent a1).toArray) (by kernel_rfl) (ldBN ty65 (l := c_ApiEvent a1) (o := 0) (cs := c_ApiEvent a1) (pick2 _ _ _) (len_ApiEvent _ hl1) (whole _ _ (len_ApiEvent _ hl1)))) hI ?_)
  obtain ⟨⟨y6, y7⟩, hc5, h0⟩ := bindS h0
  try dsimp only at h0
  refine OpsT.cons (Does.call (d := some 10) (n := 74) (vs := [.agg (c_ApiEvent a1).toArray]) (by kernel_rfl) en74 (c74 w0 w _ _ hI a1 hl1 _ hc5) ?_)
  rintro e w ⟨rfl, hI⟩
  refine ⟨_, rfl, ?_⟩
  refine OpsT.pures (r := []) [2, 3, 4, 5, 6] [2, 4, 6, 7] (S' := [(2, .pointer (some ⟨b2, 0, none⟩)), (4, .pointer (some ⟨b4, 0, none⟩)), (6, .string y6), (7, .bool y7)]) (by kernel_rfl) ?_
  refine OpsT.done ?_
  refine Qn.then ?_
  refine CodT.seq ?_
  refine CodT.seq ?_
  refine CodT.regionL [0, 1] (by kernel_rfl) ?_
  refine OpsT.pures (r := []) [0, 1] [2, 4, 6, 14] (S' := [(2, .pointer (some ⟨b2, 0, none⟩)), (4, .pointer (some ⟨b4, 0, none⟩)), (6, .string y6), (14, .bool (!y7))]) (by kernel_rfl) ?_
  refine OpsT.done ?_
  refine Qn.then ?_
  by_cases hb8 : (!y7) = true
  · rw [if_pos hb8] at h0
    refine CodT.yes' (b := !y7) (by kernel_rfl) hb8 ?_
    refine CodT.seq ?_
    refine CodT.regionL [0, 1, 2] (by kernel_rfl) ?_
    refine OpsT.pures (r := [1, 2]) [0] [4, 15] (S' := [(4, .pointer (some ⟨b4, 0, none⟩)), (15, .agg (cA (Value.int .u8) ([0, 0, 0, 0, 0, 0, 0, 0, 0, 0, 0, 0, 0, 0, 0, 0, 0, 0, 0, 0, 0, 0, 0, 0, 0, 0, 0, 0, 0, 0, 0, 0] : List Int)).toArray)]) (by kernel_rfl) ?_
    refine OpsT.cons (Does.storeAll (T := 55) (b := b4) (n := 32) (xs := (List.replicate 32 (0 : Int))) (ys := ([0, 0, 0, 0, 0, 0, 0, 0, 0, 0, 0, 0, 0, 0, 0, 0, 0, 0, 0, 0, 0, 0, 0, 0, 0, 0, 0, 0, 0, 0, 0, 0] : List Int)) (by kernel_rfl) ty55 hI (fun _ => rfl) (by kernel_rfl) (by kernel_rfl) ?_)
    intro w hI
    refine OpsT.pures (r := []) [2] [4, 5] (S' := [(4, .pointer (some ⟨b4, 0, none⟩)), (5, .bool false)]) (by kernel_rfl) ?_
    refine OpsT.done ?_
    refine Qn.then ?_
    refine CodT.ret ?_
    refine Qn.ret_then ?_
    have hL9 := (ldBN ty55 (l := cA (Value.int .u8) ([0, 0, 0, 0, 0, 0, 0, 0, 0, 0, 0, 0, 0, 0, 0, 0, 0, 0, 0, 0, 0, 0, 0, 0, 0, 0, 0, 0, 0, 0, 0, 0] : List Int)) (o := 0) (cs := cA (Value.int .u8) ([0, 0, 0, 0, 0, 0, 0, 0, 0, 0, 0, 0, 0, 0, 0, 0, 0, 0, 0, 0, 0, 0, 0, 0, 0, 0, 0, 0, 0, 0, 0, 0] : List Int)) (ent_refl _) ((cA_length _ _).trans (by kernel_rfl)) (whole _ _ ((cA_length _ _).trans (by kernel_rfl)))) w hI
    have hI := hI.drop
    have hI := hI.drop
    have hI := hI.drop
    have e := someS h0
    subst e
    refine Qn.keep [4, 5] (S' := [(4, .pointer (some ⟨b4, 0, none⟩)), (5, .bool false)]) (by kernel_rfl) ?_
    exact post_ret (v := .tuple #[.agg (cA (Value.int .u8) ([0, 0, 0, 0, 0, 0, 0, 0, 0, 0, 0, 0, 0, 0, 0, 0, 0, 0, 0, 0, 0, 0, 0, 0, 0, 0, 0, 0, 0, 0, 0, 0] : List Int)).toArray, .bool false]) (fun a ha => RunRes.run (vs := [.agg (cA (Value.int .u8) ([0, 0, 0, 0, 0, 0, 0, 0, 0, 0, 0, 0, 0, 0, 0, 0, 0, 0, 0, 0, 0, 0, 0, 0, 0, 0, 0, 0, 0, 0, 0, 0] : List Int)).toArray, .bool false]) (.cell (t := 4) (T := 55) (ad := ⟨b4, 0, none⟩) (by kernel_rfl) hL9 (.tmp (t := 5) (by kernel_rfl) .nil)) ha (by kernel_rfl)) ⟨rfl, (by kernel_rfl), hI⟩
  · rw [if_neg hb8] at h0
    refine CodT.no' (b := !y7) (by kernel_rfl) (by simpa using hb8) ?_
    refine CodT.skip ?_
    refine Qn.then ?_
    refine CodT.seq ?_
    refine CodT.regionL [0, 1, 2, 3, 4] (by kernel_rfl) ?_
    refine OpsT.cons (Does.yi (Yl.load (d := 16) (T := 55) (v := .agg (cA (Value.int .u8) a0).toArray) (by kernel_rfl) (ldBN ty55 (l := cA (Value.int .u8) a0) (o := 0) (cs := cA (Value.int .u8) a0) (pick3 _ _ _ _) ((cA_length _ _).trans hl_a0) (whole _ _ ((cA_length _ _).trans hl_a0)))) hI ?_)
    refine OpsT.pures (r := [2, 3, 4]) [1] [4, 16, 17] (S' := [(4, .pointer (some ⟨b4, 0, none⟩)), (16, .agg (cA (Value.int .u8) a0).toArray), (17, .string y6)]) (by kernel_rfl) ?_
    obtain ⟨y11, hc10, h0⟩ := bindS h0
    try dsimp only at h0
    refine OpsT.cons (Does.call (d := some 18) (n := 75) (vs := [.agg (cA (Value.int .u8) a0).toArray, .string y6]) (by kernel_rfl) en75 (c75 w0 w _ _ hI a0 hl_a0 y6 _ hc10) ?_)
    rintro e w ⟨rfl, hl12, hI⟩
    refine ⟨_, rfl, ?_⟩
    refine OpsT.cons (Does.storeAll (T := 55) (b := b4) (n := 32) (xs := (List.replicate 32 (0 : Int))) (ys := y11) (by kernel_rfl) ty55 hI (fun _ => rfl) (by kernel_rfl) hl12 ?_)
    intro w hI
    refine OpsT.pures (r := []) [4] [4, 5] (S' := [(4, .pointer (some ⟨b4, 0, none⟩)), (5, .bool true)]) (by kernel_rfl) ?_
    refine OpsT.done ?_
    refine Qn.then ?_
    refine CodT.ret ?_
    have hL13 := (ldBN ty55 (l := cA (Value.int .u8) y11) (o := 0) (cs := cA (Value.int .u8) y11) (ent_refl _) ((cA_length _ _).trans hl12) (whole _ _ ((cA_length _ _).trans hl12))) w hI
    have hI := hI.drop
    have hI := hI.drop
    have hI := hI.drop
    have e := someS h0
    subst e
    refine Qn.keep [4, 5] (S' := [(4, .pointer (some ⟨b4, 0, none⟩)), (5, .bool true)]) (by kernel_rfl) ?_
    exact post_ret (v := .tuple #[.agg (cA (Value.int .u8) y11).toArray, .bool true]) (fun a ha => RunRes.run (vs := [.agg (cA (Value.int .u8) y11).toArray, .bool true]) (.cell (t := 4) (T := 55) (ad := ⟨b4, 0, none⟩) (by kernel_rfl) hL13 (.tmp (t := 5) (by kernel_rfl) .nil)) ha (by kernel_rfl)) ⟨rfl, hl12, hI⟩
set_option maxRecDepth 100000 in
set_option maxHeartbeats 4000000 in
/-- cenotaph/cenotaphref06.Head -/
theorem c28 (w0 w : World) (Z : Hp) (A : HP) (hI : Inv w0 Z w A) (a0 : (List Int)) (hl_a0 : a0.length = 32) (A_a1 : Option Addr) (c_a1 : Nat) (a1 : (List ApiEvent)) (hr_a1 : RdS Z c_ApiEvent 37 A_a1 c_a1 a1) (r : ((List Int) × Bool)) (h0 : ref06_Head a0 a1 = some r) :
    Calls prog 28 #[.agg (cA (Value.int .u8) a0).toArray, .slice A_a1 a1.length c_a1] w (fun e w' => e = .returned (.tuple #[.agg (cA (Value.int .u8) r.1).toArray, .bool r.2]) ∧ r.1.length = 32 ∧ Inv w0 Z w' A) := by
  have e4 := calls_intro (R := (fun e w' => e = .returned (.tuple #[.agg (cA (Value.int .u8) r.1).toArray, .bool r.2]) ∧ r.1.length = 32 ∧ Inv w0 Z w' A)) (w := w) (args := [.agg (cA (Value.int .u8) a0).toArray, .slice A_a1 a1.length c_a1]) (fn := Go.Proofs.Try.f28) 29 Go.Proofs.Try.func28 (by rfl) Go.Proofs.Try.ntmps28 (by kernel_rfl)
  refine e4 ?_
  clear e4
  unfold ref06_Head at h0
  refine CodT.seq ?_
  refine CodT.regionL [0, 1, 2] (by kernel_rfl) ?_
  refine OpsT.cons (Does.boxL (d := 2) (T := 55) (v := .agg (cA (Value.int .u8) a0).toArray) (cA (Value.int .u8) a0) (by kernel_rfl) hI (by kernel_rfl) ?_)
  intro b1 w hI
  refine OpsT.cons (Does.allocL (d := 4) (T := 55) (cA (Value.int .u8) (List.replicate 32 (0 : Int))) (by kernel_rfl) ty55 hI (by kernel_rfl) ?_)
  intro b2 w hI
  refine OpsT.pures (r := []) [2] [1, 2, 4] (S' := [(1, .slice A_a1 a1.length c_a1), (2, .pointer (some ⟨b1, 0, none⟩)), (4, .pointer (some ⟨b2, 0, none⟩))]) (by kernel_rfl) ?_
  refine OpsT.done ?_
  refine Qn.then ?_
  refine CodT.seq ?_
  refine CodT.seq ?_
  refine CodT.regionL [0] (by kernel_rfl) ?_
  refine OpsT.pures (r := []) [0] [1, 2, 4, 6] (S' := [(1, .slice A_a1 a1.length c_a1), (2, .pointer (some ⟨b1, 0, none⟩)), (4, .pointer (some ⟨b2, 0, none⟩)), (6, .int .i64 0)]) (by kernel_rfl) ?_
  refine OpsT.done ?_
  refine Qn.then ?_
  obtain ⟨r1, h1, h0⟩ := bindS h0
  refine CodT.meet1 (fun a w => ∃ (x3 : (List Int)), .inr x3 = r1 ∧ Fr 29 [(2, .pointer (some ⟨b1, 0, none⟩)), (4, .pointer (some ⟨b2, 0, none⟩))] a ∧ Inv w0 Z w (star (pt b2 (.cells (cA (Value.int .u8) (List.replicate 32 (0 : Int))).toArray 55 (0, 0))) (star (pt b1 (.cells (cA (Value.int .u8) x3).toArray 55 (0, 0))) A)) ∧ x3.length = 32) ?_ ?_
  ·
    refine CodT.block ?_
    refine (fun a ha => wp_loopN (fun k a w => ∃ (x5 : Int) (x6 : (List Int)), ref06_Head.l0 a1 k x5 x6 = some r1 ∧ Fr 29 [(1, .slice A_a1 a1.length c_a1), (2, .pointer (some ⟨b1, 0, none⟩)), (4, .pointer (some ⟨b2, 0, none⟩)), (6, .int .i64 x5)] a ∧ Inv w0 Z w (star (pt b2 (.cells (cA (Value.int .u8) (List.replicate 32 (0 : Int))).toArray 55 (0, 0))) (star (pt b1 (.cells (cA (Value.int .u8) x6).toArray 55 (0, 0))) A)) ∧ x6.length = 32) ?_ FU a w ⟨0, a0, h1, ha.keep [1, 2, 4, 6] (by kernel_rfl), hI, hl_a0⟩)
    clear h1 hI
    rintro k a w ⟨x5, x6, h1, ha, hI, hl7⟩
    rcases k with _ | k
    · cases h1
    simp only [ref06_Head.l0] at h1
    refine CodT.of ?_ ha
    refine CodT.seq ?_
    refine CodT.seq ?_
    refine CodT.regionL [0, 1, 2, 3] (by kernel_rfl) ?_
    refine OpsT.pures (r := []) [0, 1, 2, 3] [1, 2, 4, 6, 12] (S' := [(1, .slice A_a1 a1.length c_a1), (2, .pointer (some ⟨b1, 0, none⟩)), (4, .pointer (some ⟨b2, 0, none⟩)), (6, .int .i64 x5), (12, .bool (decide (x5 < (a1.length : Int))))]) (by kernel_rfl) ?_
    refine OpsT.done ?_
    refine Qn.then ?_
    by_cases hb8 : (decide (x5 < (a1.length : Int))) = true
    · rw [if_pos hb8] at h1
      refine CodT.yes' (b := decide (x5 < (a1.length : Int))) (by kernel_rfl) hb8 ?_
      refine CodT.skip ?_
      refine Qn.then ?_
      refine CodT.seq ?_
      refine CodT.block ?_
      obtain ⟨r2, h2, h1⟩ := bindS h1
      refine CodT.meet (fun a w => ∃ (x10 : (List Int)) (x12 : Bool) (b9 : Nat), (x10, x12) = r2 ∧ Fr 29 [(1, .slice A_a1 a1.length c_a1), (2, .pointer (some ⟨b1, 0, none⟩)), (4, .pointer (some ⟨b2, 0, none⟩)), (6, .int .i64 x5), (7, .pointer (some ⟨b9, 0, none⟩)), (8, .bool x12)] a ∧ Inv w0 Z w (star (pt b9 (.cells (cA (Value.int .u8) x10).toArray 55 (0, 0))) (star (pt b2 (.cells (cA (Value.int .u8) (List.replicate 32 (0 : Int))).toArray 55 (0, 0))) (star (pt b1 (.cells (cA (Value.int .u8) x6).toArray 55 (0, 0))) A))) ∧ x10.length = 32) ?_ ?_
      ·
        refine CodT.drawI (n := 12) [10] (by kernel_rfl) (by kernel_rfl) hI ?_
        intro w hI
        refine GmT.p' 1 17 (.slice A_a1 a1.length c_a1) (by kernel_rfl) (by kernel_rfl) ?_
        refine GmT.p' 2 18 (.int .i64 x5) (by kernel_rfl) (by kernel_rfl) ?_
        refine GmT.r (i := 0) 2 (by kernel_rfl) (by kernel_rfl) (Yl.load (d := 16) (T := 55) (v := .agg (cA (Value.int .u8) x6).toArray) (by kernel_rfl) (ldBN ty55 (l := cA (Value.int .u8) x6) (o := 0) (cs := cA (Value.int .u8) x6) (pick2 _ _ _) ((cA_length _ _).trans hl7) (whole _ _ ((cA_length _ _).trans hl7)))) hI ?_
        obtain ⟨hg13, h2⟩ := guardS h2
        obtain ⟨g14, o18, hA15, hr16, hl17⟩ := RdS.get hr_a1 hg13.1 hg13.2
        refine GmT.r (i := 3) 2 (by kernel_rfl) (by kernel_rfl) (Yl.indexSlice (d := 19) (T := 56) (cc := c_a1) (k := .i64) (j := x5) (g := g14) (o := o18) (by kernel_rfl) Go.Proofs.Try.underlying56 ty65 hA15 hg13.1 hg13.2) hI ?_
        refine GmT.r (i := 4) 2 (by kernel_rfl) (by kernel_rfl) (Yl.load (d := 20) (T := 65) (v := .agg (c_ApiEvent (gt a1 x5)).toArray) (by kernel_rfl) (ldRN ty65 (cs := c_ApiEvent (gt a1 x5)) 0 (fun w hC => hr16 w0 w _ hC) hl17 (whole _ _ hl17))) hI ?_
        refine GmT.several [5, 9] (by kernel_rfl) rfl ?_
        intro i hi; simp only [List.mem_cons, List.not_mem_nil, or_false] at hi; rcases hi with rfl | rfl
        ·
          obtain ⟨⟨y20, y22⟩, hc19, h2⟩ := bindS h2
          try dsimp only at h2
          rw [lst_set]
          refine (Does.call (d := some 21) (n := 32) (vs := [.agg (cA (Value.int .u8) x6).toArray, .agg (c_ApiEvent (gt a1 x5)).toArray]) (by kernel_rfl) en32 (c32 w0 w _ _ hI x6 hl7 (gt a1 x5) (inv_ApiEvent _ hl17) _ hc19) ?_)
          rintro e w ⟨rfl, hl21, hI⟩
          refine ⟨_, rfl, ?_⟩
          refine ⟨fun _ _ => hI, ?_⟩
          refine GmT.p' 6 15 (.tuple #[.agg (cA (Value.int .u8) y20).toArray, .bool y22]) (by kernel_rfl) (by kernel_rfl) ?_
          refine GmT.p' 7 22 (.agg (cA (Value.int .u8) y20).toArray) (by kernel_rfl) (by kernel_rfl) ?_
          refine GmT.p' 8 23 (.bool y22) (by kernel_rfl) (by kernel_rfl) ?_
          refine GmT.o (i := 9) (by kernel_rfl) (Does.allocL (d := 7) (T := 55) (cA (Value.int .u8) (List.replicate 32 (0 : Int))) (by kernel_rfl) ty55 hI (by kernel_rfl) ?_)
          intro b23 w hI
          have hC := hI
          have hC := hC.drop
          refine ⟨fun _ _ => hC, ?_⟩
          refine GmT.o (i := 10) (by kernel_rfl) (Does.storeAll (T := 55) (b := b23) (n := 32) (xs := (List.replicate 32 (0 : Int))) (ys := y20) (by kernel_rfl) ty55 hI (fun _ => rfl) (by kernel_rfl) hl21 ?_)
          intro w hI
          refine ⟨fun h => absurd h (by decide), ?_⟩
          refine GmT.p' 11 8 (.bool y22) (by kernel_rfl) (by kernel_rfl) ?_
          refine GmT.done (by kernel_rfl) ?_
          have e := someS h2
          subst e
          exact Qn.thenJ fun a ha => ⟨y20, y22, b23, rfl, ha.keep [1, 2, 4, 6, 7, 8] (by kernel_rfl), hI, hl21⟩
        ·
          rw [lst_set]
          refine (Does.allocL (d := 7) (T := 55) (cA (Value.int .u8) (List.replicate 32 (0 : Int))) (by kernel_rfl) ty55 hI (by kernel_rfl) ?_)
          intro b24 w hI
          have hC := hI
          have hC := hC.drop
          refine ⟨fun _ _ => hC, ?_⟩
          obtain ⟨⟨y26, y28⟩, hc25, h2⟩ := bindS h2
          try dsimp only at h2
          refine GmT.o (i := 5) (by kernel_rfl) (Does.call (d := some 21) (n := 32) (vs := [.agg (cA (Value.int .u8) x6).toArray, .agg (c_ApiEvent (gt a1 x5)).toArray]) (by kernel_rfl) en32 (c32 w0 w _ _ hI x6 hl7 (gt a1 x5) (inv_ApiEvent _ hl17) _ hc25) ?_)
          rintro e w ⟨rfl, hl27, hI⟩
          refine ⟨_, rfl, ?_⟩
          have hC := hI
          have hC := hC.drop
          refine ⟨fun _ _ => hC, ?_⟩
          refine GmT.p' 6 15 (.tuple #[.agg (cA (Value.int .u8) y26).toArray, .bool y28]) (by kernel_rfl) (by kernel_rfl) ?_
          refine GmT.p' 7 22 (.agg (cA (Value.int .u8) y26).toArray) (by kernel_rfl) (by kernel_rfl) ?_
          refine GmT.p' 8 23 (.bool y28) (by kernel_rfl) (by kernel_rfl) ?_
          refine GmT.o (i := 10) (by kernel_rfl) (Does.storeAll (T := 55) (b := b24) (n := 32) (xs := (List.replicate 32 (0 : Int))) (ys := y26) (by kernel_rfl) ty55 hI (fun _ => rfl) (by kernel_rfl) hl27 ?_)
          intro w hI
          refine ⟨fun h => absurd h (by decide), ?_⟩
          refine GmT.p' 11 8 (.bool y28) (by kernel_rfl) (by kernel_rfl) ?_
          refine GmT.done (by kernel_rfl) ?_
          have e := someS h2
          subst e
          exact Qn.thenJ fun a ha => ⟨y26, y28, b24, rfl, ha.keep [1, 2, 4, 6, 7, 8] (by kernel_rfl), hI, hl27⟩
      ·
        rintro a w ⟨x10, x12, b9, rfl, ha, hI, hl11⟩
        try dsimp only at h1
        refine CodT.of ?_ ha
        refine CodT.seq ?_
        refine CodT.seq ?_
        refine CodT.regionL [0, 1] (by kernel_rfl) ?_
        refine OpsT.pures (r := []) [0, 1] [1, 2, 4, 6, 7, 25] (S' := [(1, .slice A_a1 a1.length c_a1), (2, .pointer (some ⟨b1, 0, none⟩)), (4, .pointer (some ⟨b2, 0, none⟩)), (6, .int .i64 x5), (7, .pointer (some ⟨b9, 0, none⟩)), (25, .bool (!x12))]) (by kernel_rfl) ?_
        refine OpsT.done ?_
        refine Qn.then ?_
        by_cases hb29 : (!x12) = true
        · rw [if_pos hb29] at h1
          refine CodT.yes' (b := !x12) (by kernel_rfl) hb29 ?_
          refine CodT.seq ?_
          refine CodT.regionL [0, 1, 2] (by kernel_rfl) ?_
          refine OpsT.pures (r := [1, 2]) [0] [4, 26] (S' := [(4, .pointer (some ⟨b2, 0, none⟩)), (26, .agg (cA (Value.int .u8) ([0, 0, 0, 0, 0, 0, 0, 0, 0, 0, 0, 0, 0, 0, 0, 0, 0, 0, 0, 0, 0, 0, 0, 0, 0, 0, 0, 0, 0, 0, 0, 0] : List Int)).toArray)]) (by kernel_rfl) ?_
          have hI := hI.mono (pick2 _ _ _)
          refine OpsT.cons (Does.storeAll (T := 55) (b := b2) (n := 32) (xs := (List.replicate 32 (0 : Int))) (ys := ([0, 0, 0, 0, 0, 0, 0, 0, 0, 0, 0, 0, 0, 0, 0, 0, 0, 0, 0, 0, 0, 0, 0, 0, 0, 0, 0, 0, 0, 0, 0, 0] : List Int)) (by kernel_rfl) ty55 hI (fun _ => rfl) (by kernel_rfl) (by kernel_rfl) ?_)
          intro w hI
          refine OpsT.pures (r := []) [2] [4, 5] (S' := [(4, .pointer (some ⟨b2, 0, none⟩)), (5, .bool false)]) (by kernel_rfl) ?_
          refine OpsT.done ?_
          refine Qn.then ?_
          refine CodT.ret ?_
          refine Qn.ret_then ?_
          refine Qn.block_ret ?_
          refine Qn.ret_then ?_
          refine Qn.ret_then ?_
          refine Qn.block_ret ?_
          refine Qn.ret_then ?_
          refine Qn.ret_then ?_
          have hL30 := (ldBN ty55 (l := cA (Value.int .u8) ([0, 0, 0, 0, 0, 0, 0, 0, 0, 0, 0, 0, 0, 0, 0, 0, 0, 0, 0, 0, 0, 0, 0, 0, 0, 0, 0, 0, 0, 0, 0, 0] : List Int)) (o := 0) (cs := cA (Value.int .u8) ([0, 0, 0, 0, 0, 0, 0, 0, 0, 0, 0, 0, 0, 0, 0, 0, 0, 0, 0, 0, 0, 0, 0, 0, 0, 0, 0, 0, 0, 0, 0, 0] : List Int)) (ent_refl _) ((cA_length _ _).trans (by kernel_rfl)) (whole _ _ ((cA_length _ _).trans (by kernel_rfl)))) w hI
          have hI := hI.drop
          have hI := hI.drop
          have hI := hI.drop
          have e := someS h1
          subst e
          try dsimp only at h0
          have e := someS h0
          subst e
          refine Qn.keep [4, 5] (S' := [(4, .pointer (some ⟨b2, 0, none⟩)), (5, .bool false)]) (by kernel_rfl) ?_
          exact post_ret (v := .tuple #[.agg (cA (Value.int .u8) ([0, 0, 0, 0, 0, 0, 0, 0, 0, 0, 0, 0, 0, 0, 0, 0, 0, 0, 0, 0, 0, 0, 0, 0, 0, 0, 0, 0, 0, 0, 0, 0] : List Int)).toArray, .bool false]) (fun a ha => RunRes.run (vs := [.agg (cA (Value.int .u8) ([0, 0, 0, 0, 0, 0, 0, 0, 0, 0, 0, 0, 0, 0, 0, 0, 0, 0, 0, 0, 0, 0, 0, 0, 0, 0, 0, 0, 0, 0, 0, 0] : List Int)).toArray, .bool false]) (.cell (t := 4) (T := 55) (ad := ⟨b2, 0, none⟩) (by kernel_rfl) hL30 (.tmp (t := 5) (by kernel_rfl) .nil)) ha (by kernel_rfl)) ⟨rfl, (by kernel_rfl), hI⟩
        · rw [if_neg hb29] at h1
          refine CodT.no' (b := !x12) (by kernel_rfl) (by simpa using hb29) ?_
          refine CodT.skip ?_
          refine Qn.then ?_
          refine CodT.regionL [0, 1] (by kernel_rfl) ?_
          refine OpsT.cons (Does.yi (Yl.load (d := 27) (T := 55) (v := .agg (cA (Value.int .u8) x10).toArray) (by kernel_rfl) (ldBN ty55 (l := cA (Value.int .u8) x10) (o := 0) (cs := cA (Value.int .u8) x10) (ent_refl _) ((cA_length _ _).trans hl11) (whole _ _ ((cA_length _ _).trans hl11)))) hI ?_)
          have hI := hI.mono (pick3 _ _ _ _)
          refine OpsT.cons (Does.storeAll (T := 55) (b := b1) (n := 32) (xs := x6) (ys := x10) (by kernel_rfl) ty55 hI (fun _ => rfl) hl7 hl11 ?_)
          intro w hI
          refine OpsT.done ?_
          refine Qn.block_normal ?_
          refine Qn.then ?_
          refine CodT.regionL [0, 1, 2] (by kernel_rfl) ?_
          refine OpsT.pures (r := []) [0, 1, 2] [1, 2, 4, 6] (S' := [(1, .slice A_a1 a1.length c_a1), (2, .pointer (some ⟨b1, 0, none⟩)), (4, .pointer (some ⟨b2, 0, none⟩)), (6, .int .i64 (wi64 (x5 + 1)))]) (by kernel_rfl) ?_
          refine OpsT.done ?_
          have hI := hI.mono (pick2 _ _ _)
          have hI := hI.drop
          have hI := hI.mono (pick2 _ _ _)
          exact Qn.thenJ fun a ha => ⟨k, Nat.lt_succ_self k, wi64 (x5 + 1), x10, h1, ha.keep [1, 2, 4, 6] (by kernel_rfl), hI, hl11⟩
    · rw [if_neg hb8] at h1
      refine CodT.no' (b := decide (x5 < (a1.length : Int))) (by kernel_rfl) (by simpa using hb8) ?_
      refine CodT.exit ?_
      refine Qn.exit_then ?_
      refine Qn.exit_then ?_
      refine Qn.block ?_
      have e := someS h1
      subst e
      exact Qn.thenJ fun a ha => ⟨x6, rfl, ha.keep [2, 4] (by kernel_rfl), hI, hl7⟩
  ·
    rintro a w ⟨x3, rfl, ha, hI, hl4⟩
    try dsimp only at h0
    refine Qn.of ?_ ha
    refine Qn.then ?_
    refine CodT.seq ?_
    refine CodT.regionL [0, 1, 2] (by kernel_rfl) ?_
    refine OpsT.cons (Does.yi (Yl.load (d := 28) (T := 55) (v := .agg (cA (Value.int .u8) x3).toArray) (by kernel_rfl) (ldBN ty55 (l := cA (Value.int .u8) x3) (o := 0) (cs := cA (Value.int .u8) x3) (pick2 _ _ _) ((cA_length _ _).trans hl4) (whole _ _ ((cA_length _ _).trans hl4)))) hI ?_)
    refine OpsT.cons (Does.storeAll (T := 55) (b := b2) (n := 32) (xs := (List.replicate 32 (0 : Int))) (ys := x3) (by kernel_rfl) ty55 hI (fun _ => rfl) (by kernel_rfl) hl4 ?_)
    intro w hI
    refine OpsT.pures (r := []) [2] [4, 5] (S' := [(4, .pointer (some ⟨b2, 0, none⟩)), (5, .bool true)]) (by kernel_rfl) ?_
    refine OpsT.done ?_
    refine Qn.then ?_
    refine CodT.ret ?_
    have hL31 := (ldBN ty55 (l := cA (Value.int .u8) x3) (o := 0) (cs := cA (Value.int .u8) x3) (ent_refl _) ((cA_length _ _).trans hl4) (whole _ _ ((cA_length _ _).trans hl4))) w hI
    have hI := hI.drop
    have hI := hI.drop
    have e := someS h0
    subst e
    refine Qn.keep [4, 5] (S' := [(4, .pointer (some ⟨b2, 0, none⟩)), (5, .bool true)]) (by kernel_rfl) ?_
    exact post_ret (v := .tuple #[.agg (cA (Value.int .u8) x3).toArray, .bool true]) (fun a ha => RunRes.run (vs := [.agg (cA (Value.int .u8) x3).toArray, .bool true]) (.cell (t := 4) (T := 55) (ad := ⟨b2, 0, none⟩) (by kernel_rfl) hL31 (.tmp (t := 5) (by kernel_rfl) .nil)) ha (by kernel_rfl)) ⟨rfl, hl4, hI⟩
set_option maxRecDepth 100000 in
set_option maxHeartbeats 4000000 in
/-- cenotaph/cenotaphref06.Start -/
theorem c71 (w0 w : World) (Z : Hp) (A : HP) (hI : Inv w0 Z w A)  (r : (List Int)) (h0 : ref06_Start = some r) :
    Calls prog 71 #[] w (fun e w' => e = .returned (.agg (cA (Value.int .u8) r).toArray) ∧ r.length = 32 ∧ Inv w0 Z w' A) := by
  have e4 := calls_intro (R := (fun e w' => e = .returned (.agg (cA (Value.int .u8) r).toArray) ∧ r.length = 32 ∧ Inv w0 Z w' A)) (w := w) (args := []) (fn := Go.Proofs.Try.f71) 2 Go.Proofs.Try.func71 (by rfl) Go.Proofs.Try.ntmps71 (by kernel_rfl)
  refine e4 ?_
  clear e4
  unfold ref06_Start at h0
  refine CodT.seq ?_
  refine CodT.regionL [0] (by kernel_rfl) ?_
  refine OpsT.cons (Does.allocL (d := 0) (T := 55) (cA (Value.int .u8) (List.replicate 32 (0 : Int))) (by kernel_rfl) ty55 hI (by kernel_rfl) ?_)
  intro b1 w hI
  refine OpsT.done ?_
  refine Qn.then ?_
  refine CodT.seq ?_
  refine CodT.regionL [0, 1] (by kernel_rfl) ?_
  obtain ⟨y3, hc2, h0⟩ := bindS h0
  try dsimp only at h0
  refine OpsT.cons (Does.call (d := some 1) (n := 95) (vs := [.string (⟨#[99, 101, 110, 111, 116, 97, 112, 104]⟩ : ByteArray)]) (by kernel_rfl) en95 (c95 w0 w _ _ hI (⟨#[99, 101, 110, 111, 116, 97, 112, 104]⟩ : ByteArray) _ hc2) ?_)
  rintro e w ⟨rfl, hl4, hI⟩
  refine ⟨_, rfl, ?_⟩
  refine OpsT.cons (Does.storeAll (T := 55) (b := b1) (n := 32) (xs := (List.replicate 32 (0 : Int))) (ys := y3) (by kernel_rfl) ty55 hI (fun _ => rfl) (by kernel_rfl) hl4 ?_)
  intro w hI
  refine OpsT.done ?_
  refine Qn.then ?_
  refine CodT.ret ?_
  have hL5 := (ldBN ty55 (l := cA (Value.int .u8) y3) (o := 0) (cs := cA (Value.int .u8) y3) (ent_refl _) ((cA_length _ _).trans hl4) (whole _ _ ((cA_length _ _).trans hl4))) w hI
  have hI := hI.drop
  have e := someS h0
  subst e
  refine Qn.keep [0] (S' := [(0, .pointer (some ⟨b1, 0, none⟩))]) (by kernel_rfl) ?_
  exact post_ret (v := .agg (cA (Value.int .u8) y3).toArray) (fun a ha => RunRes.run (vs := [.agg (cA (Value.int .u8) y3).toArray]) (.cell (t := 0) (T := 55) (ad := ⟨b1, 0, none⟩) (by kernel_rfl) hL5 .nil) ha (by kernel_rfl)) ⟨rfl, hl4, hI⟩
set_option maxRecDepth 100000 in
set_option maxHeartbeats 4000000 in
/-- cenotaph/cenotaphref06.Heads -/
theorem c30 (w0 w : World) (Z : Hp) (A : HP) (hI : Inv w0 Z w A) (A_a0 : Option Addr) (c_a0 : Nat) (a0 : (List ApiEvent)) (hr_a0 : RdS Z c_ApiEvent 37 A_a0 c_a0 a0) (r : (List (List Int))) (h0 : ref06_Heads a0 = some r) :
    Calls prog 30 #[.slice A_a0 a0.length c_a0] w (fun e w' => ∃ (A1 : Option Addr) (c1 : Nat), e = .returned (.slice A1 r.length c1) ∧ Inv w0 Z w' (star (ownS 55 (cA (Value.int .u8)) 32 A1 c1 r) A)) := by
  have e4 := calls_intro (R := (fun e w' => ∃ (A1 : Option Addr) (c1 : Nat), e = .returned (.slice A1 r.length c1) ∧ Inv w0 Z w' (star (ownS 55 (cA (Value.int .u8)) 32 A1 c1 r) A))) (w := w) (args := [.slice A_a0 a0.length c_a0]) (fn := Go.Proofs.Try.f30) 34 Go.Proofs.Try.func30 (by rfl) Go.Proofs.Try.ntmps30 (by kernel_rfl)
  refine e4 ?_
  clear e4
  unfold ref06_Heads at h0
  refine CodT.seq ?_
  refine CodT.regionL [0] (by kernel_rfl) ?_
  refine OpsT.pures (r := []) [0] [0] (S' := [(0, .slice A_a0 a0.length c_a0)]) (by kernel_rfl) ?_
  refine OpsT.done ?_
  refine Qn.then ?_
  refine CodT.seq ?_
  refine CodT.regionL [0, 1, 2] (by kernel_rfl) ?_
  obtain ⟨y2, hc1, h0⟩ := bindS h0
  try dsimp only at h0
  refine OpsT.cons (Does.call (d := some 8) (n := 71) (vs := []) (by kernel_rfl) en71 (c71 w0 w _ _ hI _ hc1) ?_)
  rintro e w ⟨rfl, hl3, hI⟩
  refine ⟨_, rfl, ?_⟩
  refine OpsT.cons (Does.allocL (d := 3) (T := 55) (cA (Value.int .u8) (List.replicate 32 (0 : Int))) (by kernel_rfl) ty55 hI (by kernel_rfl) ?_)
  intro b4 w hI
  refine OpsT.cons (Does.storeAll (T := 55) (b := b4) (n := 32) (xs := (List.replicate 32 (0 : Int))) (ys := y2) (by kernel_rfl) ty55 hI (fun _ => rfl) (by kernel_rfl) hl3 ?_)
  intro w hI
  refine OpsT.done ?_
  refine Qn.then ?_
  refine CodT.seq ?_
  refine CodT.regionL [0, 1, 2] (by kernel_rfl) ?_
  refine OpsT.cons (Does.yi (Yl.load (d := 9) (T := 55) (v := .agg (cA (Value.int .u8) y2).toArray) (by kernel_rfl) (ldBN ty55 (l := cA (Value.int .u8) y2) (o := 0) (cs := cA (Value.int .u8) y2) (ent_refl _) ((cA_length _ _).trans hl3) (whole _ _ ((cA_length _ _).trans hl3)))) hI ?_)
  refine OpsT.cons (Does.buildSliceAll (en := (cA (Value.int .u8))) (d := 10) (n := 1) (T := 60) (ps := [(0, .agg (cA (Value.int .u8) y2).toArray)]) (fun y => .agg ((cA (Value.int .u8)) y).toArray) (fun _ => rfl) ([y2] : List (List Int)) (by kernel_rfl) rfl Go.Proofs.Try.underlying60 ty55 rfl (by kernel_rfl) (by kernel_rfl) (by decide +kernel) (List.forall_mem_cons.2 ⟨((cA_length _ _).trans hl3), (fun _ h => by cases h)⟩) hI ?_)
  intro b5 w hI
  refine OpsT.pures (r := []) [2] [0, 3, 4] (S' := [(0, .slice A_a0 a0.length c_a0), (3, .pointer (some ⟨b4, 0, none⟩)), (4, .slice (some ⟨b5, 0, none⟩) (([y2] : List (List Int)).length) 1)]) (by kernel_rfl) ?_
  refine OpsT.done ?_
  refine Qn.then ?_
  refine CodT.seq ?_
  refine CodT.seq ?_
  refine CodT.regionL [0] (by kernel_rfl) ?_
  refine OpsT.pures (r := []) [0] [0, 3, 4, 5] (S' := [(0, .slice A_a0 a0.length c_a0), (3, .pointer (some ⟨b4, 0, none⟩)), (4, .slice (some ⟨b5, 0, none⟩) (([y2] : List (List Int)).length) 1), (5, .int .i64 0)]) (by kernel_rfl) ?_
  refine OpsT.done ?_
  refine Qn.then ?_
  obtain ⟨r1, h1, h0⟩ := bindS h0
  refine CodT.meet1 (fun a w => ∃ (x6 : (List (List Int))) (A7 : Option Addr) (cp8 : Nat), .inr x6 = r1 ∧ Fr 34 [(4, .slice A7 x6.length cp8)] a ∧ Inv w0 Z w (star (ownS 55 (cA (Value.int .u8)) 32 A7 cp8 x6) A)) ?_ ?_
  ·
    refine CodT.block ?_
    refine (fun a ha => wp_loopN (fun k a w => ∃ (x9 : (List (List Int))) (x12 : Int) (x13 : (List Int)) (A10 : Option Addr) (cp11 : Nat), ref06_Heads.l0 a0 k x9 x12 x13 = some r1 ∧ Fr 34 [(0, .slice A_a0 a0.length c_a0), (3, .pointer (some ⟨b4, 0, none⟩)), (4, .slice A10 x9.length cp11), (5, .int .i64 x12)] a ∧ Inv w0 Z w (star (ownS 55 (cA (Value.int .u8)) 32 A10 cp11 x9) (star (pt b4 (.cells (cA (Value.int .u8) x13).toArray 55 (0, 0))) A)) ∧ x13.length = 32) ?_ FU a w ⟨([y2] : List (List Int)), 0, y2, (some ⟨b5, 0, none⟩), 1, h1, ha.keep [0, 3, 4, 5] (by kernel_rfl), hI, hl3⟩)
    clear h1 hI
    rintro k a w ⟨x9, x12, x13, A10, cp11, h1, ha, hI, hl14⟩
    rcases k with _ | k
    · cases h1
    simp only [ref06_Heads.l0] at h1
    refine CodT.of ?_ ha
    refine CodT.seq ?_
    refine CodT.seq ?_
    refine CodT.regionL [0, 1, 2, 3] (by kernel_rfl) ?_
    refine OpsT.pures (r := []) [0, 1, 2, 3] [0, 3, 4, 5, 14] (S' := [(0, .slice A_a0 a0.length c_a0), (3, .pointer (some ⟨b4, 0, none⟩)), (4, .slice A10 x9.length cp11), (5, .int .i64 x12), (14, .bool (decide (x12 < (a0.length : Int))))]) (by kernel_rfl) ?_
    refine OpsT.done ?_
    refine Qn.then ?_
    by_cases hb15 : (decide (x12 < (a0.length : Int))) = true
    · rw [if_pos hb15] at h1
      refine CodT.yes' (b := decide (x12 < (a0.length : Int))) (by kernel_rfl) hb15 ?_
      refine CodT.skip ?_
      refine Qn.then ?_
      refine CodT.seq ?_
      refine CodT.block ?_
      obtain ⟨r2, h2, h1⟩ := bindS h1
      refine CodT.meet (fun a w => ∃ (x17 : (List Int)) (x19 : Bool) (b16 : Nat), (x17, x19) = r2 ∧ Fr 34 [(0, .slice A_a0 a0.length c_a0), (3, .pointer (some ⟨b4, 0, none⟩)), (4, .slice A10 x9.length cp11), (5, .int .i64 x12), (6, .pointer (some ⟨b16, 0, none⟩)), (7, .bool x19)] a ∧ Inv w0 Z w (star (pt b16 (.cells (cA (Value.int .u8) x17).toArray 55 (0, 0))) (star (pt b4 (.cells (cA (Value.int .u8) x13).toArray 55 (0, 0))) (star (ownS 55 (cA (Value.int .u8)) 32 A10 cp11 x9) A))) ∧ x17.length = 32) ?_ ?_
      ·
        refine CodT.drawI (n := 12) [10] (by kernel_rfl) (by kernel_rfl) hI ?_
        intro w hI
        refine GmT.p' 1 19 (.slice A_a0 a0.length c_a0) (by kernel_rfl) (by kernel_rfl) ?_
        refine GmT.p' 2 20 (.int .i64 x12) (by kernel_rfl) (by kernel_rfl) ?_
        refine GmT.r (i := 0) 2 (by kernel_rfl) (by kernel_rfl) (Yl.load (d := 18) (T := 55) (v := .agg (cA (Value.int .u8) x13).toArray) (by kernel_rfl) (ldBN ty55 (l := cA (Value.int .u8) x13) (o := 0) (cs := cA (Value.int .u8) x13) (pick2 _ _ _) ((cA_length _ _).trans hl14) (whole _ _ ((cA_length _ _).trans hl14)))) hI ?_
        obtain ⟨hg20, h2⟩ := guardS h2
        obtain ⟨g21, o25, hA22, hr23, hl24⟩ := RdS.get hr_a0 hg20.1 hg20.2
        refine GmT.r (i := 3) 2 (by kernel_rfl) (by kernel_rfl) (Yl.indexSlice (d := 21) (T := 56) (cc := c_a0) (k := .i64) (j := x12) (g := g21) (o := o25) (by kernel_rfl) Go.Proofs.Try.underlying56 ty65 hA22 hg20.1 hg20.2) hI ?_
        refine GmT.r (i := 4) 2 (by kernel_rfl) (by kernel_rfl) (Yl.load (d := 22) (T := 65) (v := .agg (c_ApiEvent (gt a0 x12)).toArray) (by kernel_rfl) (ldRN ty65 (cs := c_ApiEvent (gt a0 x12)) 0 (fun w hC => hr23 w0 w _ hC) hl24 (whole _ _ hl24))) hI ?_
        refine GmT.several [5, 9] (by kernel_rfl) rfl ?_
        intro i hi; simp only [List.mem_cons, List.not_mem_nil, or_false] at hi; rcases hi with rfl | rfl
        ·
          obtain ⟨⟨y27, y29⟩, hc26, h2⟩ := bindS h2
          try dsimp only at h2
          rw [lst_set]
          refine (Does.call (d := some 23) (n := 32) (vs := [.agg (cA (Value.int .u8) x13).toArray, .agg (c_ApiEvent (gt a0 x12)).toArray]) (by kernel_rfl) en32 (c32 w0 w _ _ hI x13 hl14 (gt a0 x12) (inv_ApiEvent _ hl24) _ hc26) ?_)
          rintro e w ⟨rfl, hl28, hI⟩
          refine ⟨_, rfl, ?_⟩
          refine ⟨fun _ _ => hI, ?_⟩
          refine GmT.p' 6 17 (.tuple #[.agg (cA (Value.int .u8) y27).toArray, .bool y29]) (by kernel_rfl) (by kernel_rfl) ?_
          refine GmT.p' 7 24 (.agg (cA (Value.int .u8) y27).toArray) (by kernel_rfl) (by kernel_rfl) ?_
          refine GmT.p' 8 25 (.bool y29) (by kernel_rfl) (by kernel_rfl) ?_
          refine GmT.o (i := 9) (by kernel_rfl) (Does.allocL (d := 6) (T := 55) (cA (Value.int .u8) (List.replicate 32 (0 : Int))) (by kernel_rfl) ty55 hI (by kernel_rfl) ?_)
          intro b30 w hI
          have hC := hI
          have hC := hC.drop
          refine ⟨fun _ _ => hC, ?_⟩
          refine GmT.o (i := 10) (by kernel_rfl) (Does.storeAll (T := 55) (b := b30) (n := 32) (xs := (List.replicate 32 (0 : Int))) (ys := y27) (by kernel_rfl) ty55 hI (fun _ => rfl) (by kernel_rfl) hl28 ?_)
          intro w hI
          refine ⟨fun h => absurd h (by decide), ?_⟩
          refine GmT.p' 11 7 (.bool y29) (by kernel_rfl) (by kernel_rfl) ?_
          refine GmT.done (by kernel_rfl) ?_
          have hI := hI.mono (pick2 _ _ _)
          have hI := hI.mono (pick3 _ _ _ _)
          have hI := hI.mono (pick3 _ _ _ _)
          have e := someS h2
          subst e
          exact Qn.thenJ fun a ha => ⟨y27, y29, b30, rfl, ha.keep [0, 3, 4, 5, 6, 7] (by kernel_rfl), hI, hl28⟩
        ·
          rw [lst_set]
          refine (Does.allocL (d := 6) (T := 55) (cA (Value.int .u8) (List.replicate 32 (0 : Int))) (by kernel_rfl) ty55 hI (by kernel_rfl) ?_)
          intro b31 w hI
          have hC := hI
          have hC := hC.drop
          refine ⟨fun _ _ => hC, ?_⟩
          obtain ⟨⟨y33, y35⟩, hc32, h2⟩ := bindS h2
          try dsimp only at h2
          refine GmT.o (i := 5) (by kernel_rfl) (Does.call (d := some 23) (n := 32) (vs := [.agg (cA (Value.int .u8) x13).toArray, .agg (c_ApiEvent (gt a0 x12)).toArray]) (by kernel_rfl) en32 (c32 w0 w _ _ hI x13 hl14 (gt a0 x12) (inv_ApiEvent _ hl24) _ hc32) ?_)
          rintro e w ⟨rfl, hl34, hI⟩
          refine ⟨_, rfl, ?_⟩
          have hC := hI
          have hC := hC.drop
          refine ⟨fun _ _ => hC, ?_⟩
          refine GmT.p' 6 17 (.tuple #[.agg (cA (Value.int .u8) y33).toArray, .bool y35]) (by kernel_rfl) (by kernel_rfl) ?_
          refine GmT.p' 7 24 (.agg (cA (Value.int .u8) y33).toArray) (by kernel_rfl) (by kernel_rfl) ?_
          refine GmT.p' 8 25 (.bool y35) (by kernel_rfl) (by kernel_rfl) ?_
          refine GmT.o (i := 10) (by kernel_rfl) (Does.storeAll (T := 55) (b := b31) (n := 32) (xs := (List.replicate 32 (0 : Int))) (ys := y33) (by kernel_rfl) ty55 hI (fun _ => rfl) (by kernel_rfl) hl34 ?_)
          intro w hI
          refine ⟨fun h => absurd h (by decide), ?_⟩
          refine GmT.p' 11 7 (.bool y35) (by kernel_rfl) (by kernel_rfl) ?_
          refine GmT.done (by kernel_rfl) ?_
          have hI := hI.mono (pick2 _ _ _)
          have hI := hI.mono (pick3 _ _ _ _)
          have hI := hI.mono (pick3 _ _ _ _)
          have e := someS h2
          subst e
          exact Qn.thenJ fun a ha => ⟨y33, y35, b31, rfl, ha.keep [0, 3, 4, 5, 6, 7] (by kernel_rfl), hI, hl34⟩
      ·
        rintro a w ⟨x17, x19, b16, rfl, ha, hI, hl18⟩
        try dsimp only at h1
        refine CodT.of ?_ ha
        refine CodT.seq ?_
        refine CodT.seq ?_
        refine CodT.regionL [0, 1] (by kernel_rfl) ?_
        refine OpsT.pures (r := []) [0, 1] [0, 3, 4, 5, 6, 27] (S' := [(0, .slice A_a0 a0.length c_a0), (3, .pointer (some ⟨b4, 0, none⟩)), (4, .slice A10 x9.length cp11), (5, .int .i64 x12), (6, .pointer (some ⟨b16, 0, none⟩)), (27, .bool (!x19))]) (by kernel_rfl) ?_
        refine OpsT.done ?_
        refine Qn.then ?_
        by_cases hb36 : (!x19) = true
        · rw [if_pos hb36] at h1
          refine CodT.yes' (b := !x19) (by kernel_rfl) hb36 ?_
          refine CodT.seq ?_
          refine CodT.regionL [0] (by kernel_rfl) ?_
          refine OpsT.pures (r := []) [0] [2] (S' := [(2, .slice none 0 0)]) (by kernel_rfl) ?_
          refine OpsT.done ?_
          refine Qn.then ?_
          refine CodT.ret ?_
          refine Qn.ret_then ?_
          refine Qn.block_ret ?_
          refine Qn.ret_then ?_
          refine Qn.ret_then ?_
          refine Qn.block_ret ?_
          refine Qn.ret_then ?_
          refine Qn.ret_then ?_
          have hI := ownS_nil (α := (List Int)) hI 55 (cA (Value.int .u8)) 32
          have hI := hI.mono (pick2 _ _ _)
          have hI := hI.drop
          have hI := hI.mono (pick2 _ _ _)
          have hI := hI.drop
          have hI := hI.mono (pick2 _ _ _)
          have hI := hI.drop
          have e := someS h1
          subst e
          try dsimp only at h0
          have e := someS h0
          subst e
          refine Qn.keep [2] (S' := [(2, .slice none 0 0)]) (by kernel_rfl) ?_
          exact post_ret (v := .slice none 0 0) (fun a ha => RunRes.run (vs := [.slice none 0 0]) (.tmp (t := 2) (by kernel_rfl) .nil) ha (by kernel_rfl)) ⟨none, 0, rfl, hI⟩
        · rw [if_neg hb36] at h1
          refine CodT.no' (b := !x19) (by kernel_rfl) (by simpa using hb36) ?_
          refine CodT.skip ?_
          refine Qn.then ?_
          refine CodT.seq ?_
          refine CodT.regionL [0, 1] (by kernel_rfl) ?_
          refine OpsT.cons (Does.yi (Yl.load (d := 28) (T := 55) (v := .agg (cA (Value.int .u8) x17).toArray) (by kernel_rfl) (ldBN ty55 (l := cA (Value.int .u8) x17) (o := 0) (cs := cA (Value.int .u8) x17) (ent_refl _) ((cA_length _ _).trans hl18) (whole _ _ ((cA_length _ _).trans hl18)))) hI ?_)
          have hI := hI.mono (pick2 _ _ _)
          refine OpsT.cons (Does.storeAll (T := 55) (b := b4) (n := 32) (xs := x13) (ys := x17) (by kernel_rfl) ty55 hI (fun _ => rfl) hl14 hl18 ?_)
          intro w hI
          refine OpsT.done ?_
          refine Qn.then ?_
          refine CodT.regionL [0, 1, 2, 3, 4] (by kernel_rfl) ?_
          refine OpsT.pures (r := [1, 2, 3, 4]) [0] [0, 3, 5, 29] (S' := [(0, .slice A_a0 a0.length c_a0), (3, .pointer (some ⟨b4, 0, none⟩)), (5, .int .i64 x12), (29, .slice A10 x9.length cp11)]) (by kernel_rfl) ?_
          refine OpsT.cons (Does.yi (Yl.load (d := 30) (T := 55) (v := .agg (cA (Value.int .u8) x17).toArray) (by kernel_rfl) (ldBN ty55 (l := cA (Value.int .u8) x17) (o := 0) (cs := cA (Value.int .u8) x17) (ent_refl _) ((cA_length _ _).trans hl18) (whole _ _ ((cA_length _ _).trans hl18)))) hI ?_)
          refine OpsT.cons (Does.buildSliceAll (en := (cA (Value.int .u8))) (d := 31) (n := 1) (T := 60) (ps := [(0, .agg (cA (Value.int .u8) x17).toArray)]) (fun y => .agg ((cA (Value.int .u8)) y).toArray) (fun _ => rfl) ([x17] : List (List Int)) (by kernel_rfl) rfl Go.Proofs.Try.underlying60 ty55 rfl (by kernel_rfl) (by kernel_rfl) (by decide +kernel) (List.forall_mem_cons.2 ⟨((cA_length _ _).trans hl18), (fun _ h => by cases h)⟩) hI ?_)
          intro b37 w hI
          obtain ⟨hg38, h1⟩ := guardS h1
          have hI := hI.mono (pick4 _ _ _ _ _)
          refine OpsT.cons (Does.append (d := 32) (t := 60) (tx := 60) (ty := 60) (ys := x9) (zs := ([x17] : List (List Int))) (x := .slice (some ⟨b37, 0, none⟩) (([x17] : List (List Int)).length) 1) (by kernel_rfl) Go.Proofs.Try.underlying60 ty55 (by kernel_rfl) hI (src_own Go.Proofs.Try.underlying60 (hI.mono (pick2 _ _ _)) (one_flat _ (fun u => ones_cA u))) (ownS_facts (hI.mono (pick2 _ _ _))).2.2 (by unfold LIM at hg38; omega) hg38 ?_)
          intro A39 cp40 w hI
          refine OpsT.pures (r := []) [4] [0, 3, 4, 5] (S' := [(0, .slice A_a0 a0.length c_a0), (3, .pointer (some ⟨b4, 0, none⟩)), (4, .slice A39 ((x9 ++ ([x17] : List (List Int))).length) cp40), (5, .int .i64 x12)]) (by kernel_rfl) ?_
          refine OpsT.done ?_
          refine Qn.block_normal ?_
          refine Qn.then ?_
          refine CodT.regionL [0, 1, 2] (by kernel_rfl) ?_
          refine OpsT.pures (r := []) [0, 1, 2] [0, 3, 4, 5] (S' := [(0, .slice A_a0 a0.length c_a0), (3, .pointer (some ⟨b4, 0, none⟩)), (4, .slice A39 ((x9 ++ ([x17] : List (List Int))).length) cp40), (5, .int .i64 (wi64 (x12 + 1)))]) (by kernel_rfl) ?_
          refine OpsT.done ?_
          have hI := hI.mono (pick2 _ _ _)
          have hI := hI.drop
          have hI := hI.mono (pick3 _ _ _ _)
          have hI := hI.drop
          exact Qn.thenJ fun a ha => ⟨k, Nat.lt_succ_self k, x9 ++ ([x17] : List (List Int)), wi64 (x12 + 1), x17, A39, cp40, h1, ha.keep [0, 3, 4, 5] (by kernel_rfl), hI, hl18⟩
    · rw [if_neg hb15] at h1
      refine CodT.no' (b := decide (x12 < (a0.length : Int))) (by kernel_rfl) (by simpa using hb15) ?_
      refine CodT.exit ?_
      refine Qn.exit_then ?_
      refine Qn.exit_then ?_
      refine Qn.block ?_
      have hI := hI.mono (pick2 _ _ _)
      have hI := hI.drop
      have e := someS h1
      subst e
      exact Qn.thenJ fun a ha => ⟨x9, A10, cp11, rfl, ha.keep [4] (by kernel_rfl), hI⟩
  ·
    rintro a w ⟨x6, A7, cp8, rfl, ha, hI⟩
    try dsimp only at h0
    refine Qn.of ?_ ha
    refine Qn.then ?_
    refine CodT.seq ?_
    refine CodT.regionL [0, 1] (by kernel_rfl) ?_
    refine OpsT.pures (r := []) [0, 1] [2] (S' := [(2, .slice A7 x6.length cp8)]) (by kernel_rfl) ?_
    refine OpsT.done ?_
    refine Qn.then ?_
    refine CodT.ret ?_
    have e := someS h0
    subst e
    refine Qn.keep [2] (S' := [(2, .slice A7 x6.length cp8)]) (by kernel_rfl) ?_
    exact post_ret (v := .slice A7 x6.length cp8) (fun a ha => RunRes.run (vs := [.slice A7 x6.length cp8]) (.tmp (t := 2) (by kernel_rfl) .nil) ha (by kernel_rfl)) ⟨A7, cp8, rfl, hI⟩
set_option maxRecDepth 100000 in
set_option maxHeartbeats 4000000 in
/-- cenotaph/cenotaphref06.input -/
theorem c76 (w0 w : World) (Z : Hp) (A : HP) (hI : Inv w0 Z w A) (A_a0 : Option Addr) (c_a0 : Nat) (a0 : (List (List Int))) (hr_a0 : RdS Z (cA (Value.int .u8)) 32 A_a0 c_a0 a0) (A_a1 : Option Addr) (c_a1 : Nat) (a1 : (List ApiEvent)) (hr_a1 : RdS Z c_ApiEvent 37 A_a1 c_a1 a1) (a2 : Int) (r : ByteArray) (h0 : ref06_input a0 a1 a2 = some r) :
    Calls prog 76 #[.slice A_a0 a0.length c_a0, .slice A_a1 a1.length c_a1, .int .i64 a2] w (fun e w' => e = .returned (.string r) ∧ Inv w0 Z w' A) := by
  have e4 := calls_intro (R := (fun e w' => e = .returned (.string r) ∧ Inv w0 Z w' A)) (w := w) (args := [.slice A_a0 a0.length c_a0, .slice A_a1 a1.length c_a1, .int .i64 a2]) (fn := Go.Proofs.Try.f76) 28 Go.Proofs.Try.func76 (by rfl) Go.Proofs.Try.ntmps76 (by kernel_rfl)
  refine e4 ?_
  clear e4
  unfold ref06_input at h0
  refine CodT.seq ?_
  refine CodT.regionL [0] (by kernel_rfl) ?_
  refine OpsT.pures (r := []) [0] [0, 1, 2] (S' := [(0, .slice A_a0 a0.length c_a0), (1, .slice A_a1 a1.length c_a1), (2, .int .i64 a2)]) (by kernel_rfl) ?_
  refine OpsT.done ?_
  refine Qn.then ?_
  refine CodT.seq ?_
  refine CodT.seq ?_
  refine CodT.regionL [0, 1] (by kernel_rfl) ?_
  refine OpsT.pures (r := []) [0, 1] [0, 1, 2, 10] (S' := [(0, .slice A_a0 a0.length c_a0), (1, .slice A_a1 a1.length c_a1), (2, .int .i64 a2), (10, .bool (a2 == 0))]) (by kernel_rfl) ?_
  refine OpsT.done ?_
  refine Qn.then ?_
  by_cases hb1 : (a2 == 0) = true
  · rw [if_pos hb1] at h0
    refine CodT.yes' (b := a2 == 0) (by kernel_rfl) hb1 ?_
    refine CodT.seq ?_
    refine CodT.regionL [0] (by kernel_rfl) ?_
    refine OpsT.pures (r := []) [0] [6] (S' := [(6, .string (⟨#[99, 101, 110, 111, 116, 97, 112, 104]⟩ : ByteArray))]) (by kernel_rfl) ?_
    refine OpsT.done ?_
    refine Qn.then ?_
    refine CodT.ret ?_
    refine Qn.ret_then ?_
    have e := someS h0
    subst e
    refine Qn.keep [6] (S' := [(6, .string (⟨#[99, 101, 110, 111, 116, 97, 112, 104]⟩ : ByteArray))]) (by kernel_rfl) ?_
    exact post_ret (v := .string (⟨#[99, 101, 110, 111, 116, 97, 112, 104]⟩ : ByteArray)) (fun a ha => RunRes.run (vs := [.string (⟨#[99, 101, 110, 111, 116, 97, 112, 104]⟩ : ByteArray)]) (.tmp (t := 6) (by kernel_rfl) .nil) ha (by kernel_rfl)) ⟨rfl, hI⟩
  · rw [if_neg hb1] at h0
    refine CodT.no' (b := a2 == 0) (by kernel_rfl) (by simpa using hb1) ?_
    refine CodT.skip ?_
    refine Qn.then ?_
    refine CodT.seq ?_
    refine CodT.regionL [0, 1, 2, 3, 4, 5, 6, 7, 8, 9, 10] (by kernel_rfl) ?_
    refine OpsT.pures (r := [3, 4, 5, 6, 7, 8, 9, 10]) [0, 1, 2] [0, 2, 12, 14] (S' := [(0, .slice A_a0 a0.length c_a0), (2, .int .i64 a2), (12, .slice A_a1 a1.length c_a1), (14, .int .i64 (wi64 (a2 - 1)))]) (by kernel_rfl) ?_
    obtain ⟨hg2, h0⟩ := guardS h0
    obtain ⟨g3, o7, hA4, hr5, hl6⟩ := RdS.get hr_a1 hg2.1 hg2.2
    refine OpsT.cons (Does.yi (Yl.indexSlice (d := 15) (T := 56) (cc := c_a1) (k := .i64) (j := wi64 (a2 - 1)) (g := g3) (o := o7) (by kernel_rfl) Go.Proofs.Try.underlying56 ty65 hA4 hg2.1 hg2.2) hI ?_)
    refine OpsT.cons (Does.yi (Yl.load (d := 16) (T := 65) (v := .agg (c_ApiEvent (gt a1 (wi64 (a2 - 1)))).toArray) (by kernel_rfl) (ldRN ty65 (cs := c_ApiEvent (gt a1 (wi64 (a2 - 1)))) 0 (fun w hC => hr5 w0 w _ hC) hl6 (whole _ _ hl6))) hI ?_)
    obtain ⟨⟨y9, y10⟩, hc8, h0⟩ := bindS h0
    try dsimp only at h0
    refine OpsT.cons (Does.call (d := some 17) (n := 74) (vs := [.agg (c_ApiEvent (gt a1 (wi64 (a2 - 1)))).toArray]) (by kernel_rfl) en74 (c74 w0 w _ _ hI (gt a1 (wi64 (a2 - 1))) (inv_ApiEvent _ hl6) _ hc8) ?_)
    rintro e w ⟨rfl, hI⟩
    refine ⟨_, rfl, ?_⟩
    refine OpsT.pures (r := []) [6, 7, 8, 9, 10] [0, 2, 7] (S' := [(0, .slice A_a0 a0.length c_a0), (2, .int .i64 a2), (7, .string y9)]) (by kernel_rfl) ?_
    refine OpsT.done ?_
    refine Qn.then ?_
    refine CodT.seq ?_
    refine CodT.regionL [0, 1, 2, 3, 4, 5, 6, 7, 8] (by kernel_rfl) ?_
    refine OpsT.pures (r := [3, 4, 5, 6, 7, 8]) [0, 1, 2] [7, 20, 22] (S' := [(7, .string y9), (20, .slice A_a0 a0.length c_a0), (22, .int .i64 (wi64 (a2 - 1)))]) (by kernel_rfl) ?_
    obtain ⟨hg11, h0⟩ := guardS h0
    obtain ⟨g12, o16, hA13, hr14, hl15⟩ := RdS.get hr_a0 hg11.1 hg11.2
    refine OpsT.cons (Does.yi (Yl.indexSlice (d := 23) (T := 60) (cc := c_a0) (k := .i64) (j := wi64 (a2 - 1)) (g := g12) (o := o16) (by kernel_rfl) Go.Proofs.Try.underlying60 ty55 hA13 hg11.1 hg11.2) hI ?_)
    refine OpsT.cons (Does.yi (Yl.load (d := 24) (T := 55) (v := .agg (cA (Value.int .u8) (gt a0 (wi64 (a2 - 1)))).toArray) (by kernel_rfl) (ldRN ty55 (cs := cA (Value.int .u8) (gt a0 (wi64 (a2 - 1)))) 0 (fun w hC => hr14 w0 w _ hC) ((cA_length _ _).trans ((cA_length _ _).symm.trans hl15)) (whole _ _ ((cA_length _ _).trans ((cA_length _ _).symm.trans hl15))))) hI ?_)
    obtain ⟨y18, hc17, h0⟩ := bindS h0
    try dsimp only at h0
    refine OpsT.cons (Does.call (d := some 25) (n := 102) (vs := [.agg (cA (Value.int .u8) (gt a0 (wi64 (a2 - 1)))).toArray]) (by kernel_rfl) en102 (c102 w0 w _ _ hI (gt a0 (wi64 (a2 - 1))) ((cA_length _ _).symm.trans hl15) _ hc17) ?_)
    rintro e w ⟨rfl, hI⟩
    refine ⟨_, rfl, ?_⟩
    refine OpsT.pures (r := [7, 8]) [6] [25, 26] (S' := [(25, .string y18), (26, .string y9)]) (by kernel_rfl) ?_
    obtain ⟨hg19, h0⟩ := guardS h0
    refine OpsT.cons (Does.yi (Yl.cat (d := 27) (T := 9) (x := y18) (y := y9) (by kernel_rfl) hg19) hI ?_)
    refine OpsT.pures (r := []) [8] [6] (S' := [(6, .string (y18 ++ y9))]) (by kernel_rfl) ?_
    refine OpsT.done ?_
    refine Qn.then ?_
    refine CodT.ret ?_
    have e := someS h0
    subst e
    refine Qn.keep [6] (S' := [(6, .string (y18 ++ y9))]) (by kernel_rfl) ?_
    exact post_ret (v := .string (y18 ++ y9)) (fun a ha => RunRes.run (vs := [.string (y18 ++ y9)]) (.tmp (t := 6) (by kernel_rfl) .nil) ha (by kernel_rfl)) ⟨rfl, hI⟩
set_option maxRecDepth 100000 in
set_option maxHeartbeats 4000000 in
/-- cenotaph/cenotaphref06.Input -/
theorem c34 (w0 w : World) (Z : Hp) (A : HP) (hI : Inv w0 Z w A) (A_a0 : Option Addr) (c_a0 : Nat) (a0 : (List ApiEvent)) (hr_a0 : RdS Z c_ApiEvent 37 A_a0 c_a0 a0) (a1 : Int) (r : ByteArray) (h0 : ref06_Input a0 a1 = some r) :
    Calls prog 34 #[.slice A_a0 a0.length c_a0, .int .i64 a1] w (fun e w' => e = .returned (.string r) ∧ Inv w0 Z w' A) := by
  have e4 := calls_intro (R := (fun e w' => e = .returned (.string r) ∧ Inv w0 Z w' A)) (w := w) (args := [.slice A_a0 a0.length c_a0, .int .i64 a1]) (fn := Go.Proofs.Try.f34) 20 Go.Proofs.Try.func34 (by rfl) Go.Proofs.Try.ntmps34 (by kernel_rfl)
  refine e4 ?_
  clear e4
  unfold ref06_Input at h0
  refine CodT.seq ?_
  refine CodT.regionL [0] (by kernel_rfl) ?_
  refine OpsT.pures (r := []) [0] [0, 1] (S' := [(0, .slice A_a0 a0.length c_a0), (1, .int .i64 a1)]) (by kernel_rfl) ?_
  refine OpsT.done ?_
  refine Qn.then ?_
  refine CodT.seq ?_
  refine CodT.regionL [0, 1, 2] (by kernel_rfl) ?_
  refine OpsT.pures (r := [1, 2]) [0] [0, 1, 6] (S' := [(0, .slice A_a0 a0.length c_a0), (1, .int .i64 a1), (6, .slice A_a0 a0.length c_a0)]) (by kernel_rfl) ?_
  obtain ⟨y2, hc1, h0⟩ := bindS h0
  try dsimp only at h0
  refine OpsT.cons (Does.call (d := some 7) (n := 30) (vs := [.slice A_a0 a0.length c_a0]) (by kernel_rfl) en30 (c30 w0 w _ _ hI A_a0 c_a0 a0 hr_a0 _ hc1) ?_)
  rintro e w ⟨A3, cp4, rfl, hI⟩
  refine ⟨_, rfl, ?_⟩
  refine OpsT.pures (r := []) [2] [0, 1, 5] (S' := [(0, .slice A_a0 a0.length c_a0), (1, .int .i64 a1), (5, .slice A3 y2.length cp4)]) (by kernel_rfl) ?_
  refine OpsT.done ?_
  refine Qn.then ?_
  refine CodT.seq ?_
  obtain ⟨r1, h1, h0⟩ := bindS h0
  refine CodT.meet (fun a w => ∃ (x5 : Bool), x5 = r1 ∧ Fr 20 [(0, .slice A_a0 a0.length c_a0), (1, .int .i64 a1), (5, .slice A3 y2.length cp4), (15, .bool x5)] a ∧ Inv w0 Z w (star (ownS 55 (cA (Value.int .u8)) 32 A3 cp4 y2) A)) ?_ ?_
  ·
    refine CodT.regionL [0, 1, 2, 3, 4, 5, 6, 7] (by kernel_rfl) ?_
    refine OpsT.pures (r := [3, 4, 5, 6, 7]) [0, 1, 2] [0, 1, 5, 10] (S' := [(0, .slice A_a0 a0.length c_a0), (1, .int .i64 a1), (5, .slice A3 y2.length cp4), (10, .bool (decide (a1 < 0)))]) (by kernel_rfl) ?_
    by_cases hb6 : (decide (a1 < 0)) = true
    · rw [if_pos hb6] at h1
      refine OpsT.keep [0, 1, 5, 10] (S' := [(0, .slice A_a0 a0.length c_a0), (1, .int .i64 a1), (5, .slice A3 y2.length cp4), (10, .bool true)]) (by (try simp only [hb6]); kernel_rfl) ?_
      refine OpsT.pures (r := []) [3, 4, 5, 6, 7] [0, 1, 5, 15] (S' := [(0, .slice A_a0 a0.length c_a0), (1, .int .i64 a1), (5, .slice A3 y2.length cp4), (15, .bool true)]) (by kernel_rfl) ?_
      refine OpsT.done ?_
      have e := someS h1
      subst e
      exact Qn.thenJ fun a ha => ⟨true, rfl, ha.keep [0, 1, 5, 15] (by kernel_rfl), hI⟩
    · rw [if_neg hb6] at h1
      have hb6 : (decide (a1 < 0)) = false := by simpa using hb6
      refine OpsT.keep [0, 1, 5, 10] (S' := [(0, .slice A_a0 a0.length c_a0), (1, .int .i64 a1), (5, .slice A3 y2.length cp4), (10, .bool false)]) (by (try simp only [hb6]); kernel_rfl) ?_
      refine OpsT.pures (r := []) [3, 4, 5, 6, 7] [0, 1, 5, 15] (S' := [(0, .slice A_a0 a0.length c_a0), (1, .int .i64 a1), (5, .slice A3 y2.length cp4), (15, .bool (decide (a1 ≥ (y2.length : Int))))]) (by kernel_rfl) ?_
      refine OpsT.done ?_
      have e := someS h1
      subst e
      exact Qn.thenJ fun a ha => ⟨decide (a1 ≥ (y2.length : Int)), rfl, ha.keep [0, 1, 5, 15] (by kernel_rfl), hI⟩
  ·
    rintro a w ⟨x5, rfl, ha, hI⟩
    try dsimp only at h0
    refine CodT.of ?_ ha
    by_cases hb7 : x5 = true
    · rw [if_pos hb7] at h0
      refine CodT.yes' (b := x5) (by kernel_rfl) hb7 ?_
      refine CodT.seq ?_
      refine CodT.regionL [0] (by kernel_rfl) ?_
      refine OpsT.pures (r := []) [0] [4] (S' := [(4, .string (⟨#[]⟩ : ByteArray))]) (by kernel_rfl) ?_
      refine OpsT.done ?_
      refine Qn.then ?_
      refine CodT.ret ?_
      refine Qn.ret_then ?_
      have hI := hI.drop
      have e := someS h0
      subst e
      refine Qn.keep [4] (S' := [(4, .string (⟨#[]⟩ : ByteArray))]) (by kernel_rfl) ?_
      exact post_ret (v := .string (⟨#[]⟩ : ByteArray)) (fun a ha => RunRes.run (vs := [.string (⟨#[]⟩ : ByteArray)]) (.tmp (t := 4) (by kernel_rfl) .nil) ha (by kernel_rfl)) ⟨rfl, hI⟩
    · rw [if_neg hb7] at h0
      refine CodT.no' (b := x5) (by kernel_rfl) (by simpa using hb7) ?_
      refine CodT.skip ?_
      refine Qn.then ?_
      refine CodT.seq ?_
      refine CodT.regionL [0, 1, 2, 3, 4] (by kernel_rfl) ?_
      refine OpsT.pures (r := [3, 4]) [0, 1, 2] [16, 17, 18] (S' := [(16, .slice A3 y2.length cp4), (17, .slice A_a0 a0.length c_a0), (18, .int .i64 a1)]) (by kernel_rfl) ?_
      obtain ⟨Z8, hle9, hr10, hI⟩ := ownS_freeze hI
      obtain ⟨y12, hc11, h0⟩ := bindS h0
      try dsimp only at h0
      refine OpsT.cons (Does.call (d := some 19) (n := 76) (vs := [.slice A3 y2.length cp4, .slice A_a0 a0.length c_a0, .int .i64 a1]) (by kernel_rfl) en76 (c76 w0 w _ _ hI A3 cp4 y2 hr10 A_a0 c_a0 a0 (hr_a0.mono hle9) a1 _ hc11) ?_)
      rintro e w ⟨rfl, hI⟩
      refine ⟨_, rfl, ?_⟩
      refine OpsT.pures (r := []) [4] [4] (S' := [(4, .string y12)]) (by kernel_rfl) ?_
      refine OpsT.done ?_
      refine Qn.then ?_
      refine CodT.ret ?_
      have e := someS h0
      subst e
      refine Qn.keep [4] (S' := [(4, .string y12)]) (by kernel_rfl) ?_
      exact post_ret (v := .string y12) (fun a ha => RunRes.run (vs := [.string y12]) (.tmp (t := 4) (by kernel_rfl) .nil) ha (by kernel_rfl)) ⟨rfl, hI.weaken hle9⟩
end Go.Cen
