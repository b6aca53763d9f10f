/- That the machine computes these: walks, printed by a program of ours. -/
import Derived.Test.YthdoklobbcedcabPx
import Derived.Test.YthdoklobbcedcabWx1
set_option linter.unusedVariables false
set_option linter.unusedSimpArgs false
namespace Go.Cen
set_option maxRecDepth 100000 in
set_option maxHeartbeats 4000000 in
/-- slices.IndexFunc[[]int,int] -/
theorem c77_4 (w0 w : World) (Z : Hp) (A : HP)  (A_a0 : Option Addr) (c_a0 : Nat) (a0 : (List Int)) (b_a1_c0 : Nat) (hz_a1_c0 : Z b_a1_c0 = some (.cells (([.func (.func 44) #[] #[]] : List Value)).toArray 79 (0, 0))) (b_a1_c1 : Nat) (a1_c1_v : Int) (hz_a1_c1 : Z b_a1_c1 = some (.cells (([.int .i64 a1_c1_v] : List Value)).toArray 3 (0, 0))) (hI : Inv w0 Z w (star (ownS 3 (cI .i64) 1 A_a0 c_a0 a0) A)) (r : (Int × (List Int))) (h0 : slices_IndexFunc_int__root_put_int_2_m a0 a1_c1_v = some r) :
    Calls prog 77 #[.slice A_a0 a0.length c_a0, .func (.func 87) #[] #[.pointer (some ⟨b_a1_c0, 0, none⟩), .pointer (some ⟨b_a1_c1, 0, none⟩)]] w (fun e w' => e = .returned (.int .i64 r.1) ∧ r.2.length = a0.length ∧ Inv w0 Z w' (star (ownS 3 (cI .i64) 1 A_a0 c_a0 r.2) A)) := by
  have e4 := calls_intro (R := (fun e w' => e = .returned (.int .i64 r.1) ∧ r.2.length = a0.length ∧ Inv w0 Z w' (star (ownS 3 (cI .i64) 1 A_a0 c_a0 r.2) A))) (w := w) (args := [.slice A_a0 a0.length c_a0, .func (.func 87) #[] #[.pointer (some ⟨b_a1_c0, 0, none⟩), .pointer (some ⟨b_a1_c1, 0, none⟩)]]) (fn := Go.Proofs.Try.f77) 19 Go.Proofs.Try.func77 (by rfl) Go.Proofs.Try.ntmps77 (by kernel_rfl)
  refine e4 ?_
  clear e4
  unfold slices_IndexFunc_int__root_put_int_2_m at h0
  refine CodT.seq ?_
  refine CodT.regionL [0] (by kernel_rfl) ?_
  refine OpsT.pures (r := []) [0] [0, 1] (S' := [(0, .slice A_a0 a0.length c_a0), (1, .func (.func 87) #[] #[.pointer (some ⟨b_a1_c0, 0, none⟩), .pointer (some ⟨b_a1_c1, 0, none⟩)])]) (by kernel_rfl) ?_
  refine OpsT.done ?_
  refine Qn.then ?_
  refine CodT.seq ?_
  refine CodT.seq ?_
  refine CodT.regionL [0, 1, 2] (by kernel_rfl) ?_
  refine OpsT.pures (r := []) [0, 1, 2] [0, 1, 7, 8] (S' := [(0, .slice A_a0 a0.length c_a0), (1, .func (.func 87) #[] #[.pointer (some ⟨b_a1_c0, 0, none⟩), .pointer (some ⟨b_a1_c1, 0, none⟩)]), (7, .int .i64 (a0.length : Int)), (8, .int .i64 0)]) (by kernel_rfl) ?_
  refine OpsT.done ?_
  refine Qn.then ?_
  obtain ⟨r1, h1, h0⟩ := bindS h0
  refine CodT.meet1 (fun a w => .inr () = r1 ∧ Fr 19 [] a ∧ Inv w0 Z w (star (ownS 3 (cI .i64) 1 A_a0 c_a0 a0) A)) ?_ ?_
  ·
    refine CodT.block ?_
    refine (fun a ha => wp_loopN (fun k a w => ∃ (x1 : Int), slices_IndexFunc_int__root_put_int_2_m.l0 a0 a1_c1_v k x1 = some r1 ∧ Fr 19 [(0, .slice A_a0 a0.length c_a0), (1, .func (.func 87) #[] #[.pointer (some ⟨b_a1_c0, 0, none⟩), .pointer (some ⟨b_a1_c1, 0, none⟩)]), (7, .int .i64 (a0.length : Int)), (8, .int .i64 x1)] a ∧ Inv w0 Z w (star (ownS 3 (cI .i64) 1 A_a0 c_a0 a0) A)) ?_ FU a w ⟨0, h1, ha.keep [0, 1, 7, 8] (by kernel_rfl), hI⟩)
    clear h1 hI
    rintro k a w ⟨x1, h1, ha, hI⟩
    rcases k with _ | k
    · cases h1
    simp only [slices_IndexFunc_int__root_put_int_2_m.l0] at h1
    refine CodT.of ?_ ha
    refine CodT.seq ?_
    refine CodT.regionL [0] (by kernel_rfl) ?_
    refine OpsT.pures (r := []) [0] [0, 1, 7, 8, 9] (S' := [(0, .slice A_a0 a0.length c_a0), (1, .func (.func 87) #[] #[.pointer (some ⟨b_a1_c0, 0, none⟩), .pointer (some ⟨b_a1_c1, 0, none⟩)]), (7, .int .i64 (a0.length : Int)), (8, .int .i64 x1), (9, .bool (decide (x1 < (a0.length : Int))))]) (by kernel_rfl) ?_
    refine OpsT.done ?_
    refine Qn.then ?_
    refine CodT.seq ?_
    by_cases hb2 : (decide (x1 < (a0.length : Int))) = true
    · rw [if_pos hb2] at h1
      refine CodT.yes' (b := decide (x1 < (a0.length : Int))) (by kernel_rfl) hb2 ?_
      refine CodT.skip ?_
      refine Qn.then ?_
      refine CodT.seq ?_
      refine CodT.block ?_
      refine CodT.seq ?_
      refine CodT.regionL [0, 1] (by kernel_rfl) ?_
      refine OpsT.pures (r := []) [0, 1] [0, 1, 5, 7, 8] (S' := [(0, .slice A_a0 a0.length c_a0), (1, .func (.func 87) #[] #[.pointer (some ⟨b_a1_c0, 0, none⟩), .pointer (some ⟨b_a1_c1, 0, none⟩)]), (5, .int .i64 x1), (7, .int .i64 (a0.length : Int)), (8, .int .i64 x1)]) (by kernel_rfl) ?_
      refine OpsT.done ?_
      refine Qn.then ?_
      refine CodT.seq ?_
      refine CodT.regionL [0, 1, 2, 3, 4, 5] (by kernel_rfl) ?_
      refine OpsT.pures (r := [3, 4, 5]) [0, 1, 2] [0, 1, 5, 7, 8, 11, 12, 13] (S' := [(0, .slice A_a0 a0.length c_a0), (1, .func (.func 87) #[] #[.pointer (some ⟨b_a1_c0, 0, none⟩), .pointer (some ⟨b_a1_c1, 0, none⟩)]), (5, .int .i64 x1), (7, .int .i64 (a0.length : Int)), (8, .int .i64 x1), (11, .func (.func 87) #[] #[.pointer (some ⟨b_a1_c0, 0, none⟩), .pointer (some ⟨b_a1_c1, 0, none⟩)]), (12, .slice A_a0 a0.length c_a0), (13, .int .i64 x1)]) (by kernel_rfl) ?_
      obtain ⟨hg3, h1⟩ := guardS h1
      obtain ⟨g4, hA5, hr6, hl7⟩ := ownS_get hI hg3.1 hg3.2
      refine OpsT.cons (Does.yi (Yl.indexSlice (d := 14) (T := 23) (cc := c_a0) (k := .i64) (j := x1) (g := g4) (o := 0) (by kernel_rfl) Go.Proofs.Try.underlying23 ty3 hA5 hg3.1 hg3.2) hI ?_)
      refine OpsT.cons (Does.yi (Yl.load (d := 15) (T := 3) (v := .int .i64 (gt a0 x1)) (by kernel_rfl) (ldR ty3 (v := .int .i64 (gt a0 x1)) 0 (fun w hC => hr6 w0 w _ hC) (by kernel_rfl))) hI ?_)
      obtain ⟨y9, hc8, h1⟩ := bindS h1
      try dsimp only at h1
      refine OpsT.cons (Does.call (d := some 16) (n := 87) (vs := [.int .i64 (gt a0 x1), .pointer (some ⟨b_a1_c0, 0, none⟩), .pointer (some ⟨b_a1_c1, 0, none⟩)]) (by kernel_rfl) en87 (c87 w0 w _ _ hI (gt a0 x1) b_a1_c0 hz_a1_c0 b_a1_c1 a1_c1_v hz_a1_c1 _ hc8) ?_)
      rintro e w ⟨rfl, hI⟩
      refine ⟨_, rfl, ?_⟩
      refine OpsT.done ?_
      refine Qn.then ?_
      by_cases hb10 : y9 = true
      · rw [if_pos hb10] at h1
        refine CodT.yes' (b := y9) (by kernel_rfl) hb10 ?_
        refine CodT.seq ?_
        refine CodT.regionL [0, 1] (by kernel_rfl) ?_
        refine OpsT.pures (r := []) [0, 1] [4] (S' := [(4, .int .i64 x1)]) (by kernel_rfl) ?_
        refine OpsT.done ?_
        refine Qn.then ?_
        refine CodT.ret ?_
        refine Qn.block_ret ?_
        refine Qn.ret_then ?_
        refine Qn.ret_then ?_
        refine Qn.block_ret ?_
        refine Qn.ret_then ?_
        refine Qn.ret_then ?_
        have e := someS h1
        subst e
        try dsimp only at h0
        have e := someS h0
        subst e
        refine Qn.keep [4] (S' := [(4, .int .i64 x1)]) (by kernel_rfl) ?_
        exact post_ret (v := .int .i64 x1) (fun a ha => RunRes.run (vs := [.int .i64 x1]) (.tmp (t := 4) (by kernel_rfl) .nil) ha (by kernel_rfl)) ⟨rfl, rfl, hI⟩
      · rw [if_neg hb10] at h1
        refine CodT.no' (b := y9) (by kernel_rfl) (by simpa using hb10) ?_
        refine CodT.skip ?_
        refine Qn.block_normal ?_
        refine Qn.then ?_
        refine CodT.regionL [0, 1] (by kernel_rfl) ?_
        refine OpsT.pures (r := []) [0, 1] [0, 1, 7, 8] (S' := [(0, .slice A_a0 a0.length c_a0), (1, .func (.func 87) #[] #[.pointer (some ⟨b_a1_c0, 0, none⟩), .pointer (some ⟨b_a1_c1, 0, none⟩)]), (7, .int .i64 (a0.length : Int)), (8, .int .i64 (wi64 (x1 + 1)))]) (by kernel_rfl) ?_
        refine OpsT.done ?_
        exact Qn.thenJ fun a ha => ⟨k, Nat.lt_succ_self k, wi64 (x1 + 1), h1, ha.keep [0, 1, 7, 8] (by kernel_rfl), hI⟩
    · rw [if_neg hb2] at h1
      refine CodT.no' (b := decide (x1 < (a0.length : Int))) (by kernel_rfl) (by simpa using hb2) ?_
      refine CodT.exit ?_
      refine Qn.exit_then ?_
      refine Qn.exit_then ?_
      refine Qn.block ?_
      have e := someS h1
      subst e
      exact Qn.thenJ fun a ha => ⟨rfl, ha.keep [] (by kernel_rfl), hI⟩
  ·
    rintro a w ⟨rfl, ha, hI⟩
    try dsimp only at h0
    refine Qn.of ?_ ha
    refine Qn.then ?_
    refine CodT.seq ?_
    refine CodT.regionL [0] (by kernel_rfl) ?_
    refine OpsT.pures (r := []) [0] [4] (S' := [(4, .int .i64 (-1))]) (by kernel_rfl) ?_
    refine OpsT.done ?_
    refine Qn.then ?_
    refine CodT.ret ?_
    have e := someS h0
    subst e
    refine Qn.keep [4] (S' := [(4, .int .i64 (-1))]) (by kernel_rfl) ?_
    exact post_ret (v := .int .i64 (-1)) (fun a ha => RunRes.run (vs := [.int .i64 (-1)]) (.tmp (t := 4) (by kernel_rfl) .nil) ha (by kernel_rfl)) ⟨rfl, rfl, hI⟩
set_option maxRecDepth 100000 in
set_option maxHeartbeats 4000000 in
/-- slices.DeleteFunc[[]int,int] -/
theorem c88 (w0 w : World) (Z : Hp) (A : HP)  (A_a0 : Option Addr) (c_a0 : Nat) (a0 : (List Int)) (b_a1_c0 : Nat) (hz_a1_c0 : Z b_a1_c0 = some (.cells (([.func (.func 44) #[] #[]] : List Value)).toArray 79 (0, 0))) (b_a1_c1 : Nat) (a1_c1_v : Int) (hz_a1_c1 : Z b_a1_c1 = some (.cells (([.int .i64 a1_c1_v] : List Value)).toArray 3 (0, 0))) (hI : Inv w0 Z w (star (ownS 3 (cI .i64) 1 A_a0 c_a0 a0) A)) (r : (List Int)) (h0 : slices_DeleteFunc_int__root_put_int_2 a0 a1_c1_v = some r) :
    Calls prog 88 #[.slice A_a0 a0.length c_a0, .func (.func 87) #[] #[.pointer (some ⟨b_a1_c0, 0, none⟩), .pointer (some ⟨b_a1_c1, 0, none⟩)]] w (fun e w' => ∃ (A1 : Option Addr) (c1 : Nat), e = .returned (.slice A1 r.length c1) ∧ Inv w0 Z w' (star (ownS 3 (cI .i64) 1 A1 c1 r) A)) := by
  have e4 := calls_intro (R := (fun e w' => ∃ (A1 : Option Addr) (c1 : Nat), e = .returned (.slice A1 r.length c1) ∧ Inv w0 Z w' (star (ownS 3 (cI .i64) 1 A1 c1 r) A))) (w := w) (args := [.slice A_a0 a0.length c_a0, .func (.func 87) #[] #[.pointer (some ⟨b_a1_c0, 0, none⟩), .pointer (some ⟨b_a1_c1, 0, none⟩)]]) (fn := Go.Proofs.Try.f88) 42 Go.Proofs.Try.func88 (by rfl) Go.Proofs.Try.ntmps88 (by kernel_rfl)
  refine e4 ?_
  clear e4
  unfold slices_DeleteFunc_int__root_put_int_2 at h0
  refine CodT.seq ?_
  refine CodT.regionL [0] (by kernel_rfl) ?_
  refine OpsT.pures (r := []) [0] [0, 1] (S' := [(0, .slice A_a0 a0.length c_a0), (1, .func (.func 87) #[] #[.pointer (some ⟨b_a1_c0, 0, none⟩), .pointer (some ⟨b_a1_c1, 0, none⟩)])]) (by kernel_rfl) ?_
  refine OpsT.done ?_
  refine Qn.then ?_
  refine CodT.seq ?_
  refine CodT.regionL [0, 1, 2, 3] (by kernel_rfl) ?_
  refine OpsT.pures (r := [2, 3]) [0, 1] [0, 1, 8, 9] (S' := [(0, .slice A_a0 a0.length c_a0), (1, .func (.func 87) #[] #[.pointer (some ⟨b_a1_c0, 0, none⟩), .pointer (some ⟨b_a1_c1, 0, none⟩)]), (8, .slice A_a0 a0.length c_a0), (9, .func (.func 87) #[] #[.pointer (some ⟨b_a1_c0, 0, none⟩), .pointer (some ⟨b_a1_c1, 0, none⟩)])]) (by kernel_rfl) ?_
  obtain ⟨⟨y2, y3⟩, hc1, h0⟩ := bindS h0
  try dsimp only at h0
  refine OpsT.cons (Does.call (d := some 10) (n := 77) (vs := [.slice A_a0 a0.length c_a0, .func (.func 87) #[] #[.pointer (some ⟨b_a1_c0, 0, none⟩), .pointer (some ⟨b_a1_c1, 0, none⟩)]]) (by kernel_rfl) en77 (c77_4 w0 w _ _ A_a0 c_a0 a0 b_a1_c0 hz_a1_c0 b_a1_c1 a1_c1_v hz_a1_c1 hI _ hc1) ?_)
  rintro e w ⟨rfl, hm4, hI⟩
  refine ⟨_, rfl, ?_⟩
  refine OpsT.keep [0, 1, 8, 9, 10] (S' := [(0, .slice A_a0 y3.length c_a0), (1, .func (.func 87) #[] #[.pointer (some ⟨b_a1_c0, 0, none⟩), .pointer (some ⟨b_a1_c1, 0, none⟩)]), (8, .slice A_a0 y3.length c_a0), (9, .func (.func 87) #[] #[.pointer (some ⟨b_a1_c0, 0, none⟩), .pointer (some ⟨b_a1_c1, 0, none⟩)]), (10, .int .i64 y2)]) (by simp only [hm4]; kernel_rfl) ?_
  refine OpsT.pures (r := []) [3] [0, 1, 5] (S' := [(0, .slice A_a0 y3.length c_a0), (1, .func (.func 87) #[] #[.pointer (some ⟨b_a1_c0, 0, none⟩), .pointer (some ⟨b_a1_c1, 0, none⟩)]), (5, .int .i64 y2)]) (by kernel_rfl) ?_
  refine OpsT.done ?_
  refine Qn.then ?_
  refine CodT.seq ?_
  refine CodT.seq ?_
  refine CodT.regionL [0, 1] (by kernel_rfl) ?_
  refine OpsT.pures (r := []) [0, 1] [0, 1, 5, 12] (S' := [(0, .slice A_a0 y3.length c_a0), (1, .func (.func 87) #[] #[.pointer (some ⟨b_a1_c0, 0, none⟩), .pointer (some ⟨b_a1_c1, 0, none⟩)]), (5, .int .i64 y2), (12, .bool (y2 == (-1)))]) (by kernel_rfl) ?_
  refine OpsT.done ?_
  refine Qn.then ?_
  by_cases hb5 : (y2 == (-1)) = true
  · rw [if_pos hb5] at h0
    refine CodT.yes' (b := y2 == (-1)) (by kernel_rfl) hb5 ?_
    refine CodT.seq ?_
    refine CodT.regionL [0, 1] (by kernel_rfl) ?_
    refine OpsT.pures (r := []) [0, 1] [4] (S' := [(4, .slice A_a0 y3.length c_a0)]) (by kernel_rfl) ?_
    refine OpsT.done ?_
    refine Qn.then ?_
    refine CodT.ret ?_
    refine Qn.ret_then ?_
    have e := someS h0
    subst e
    refine Qn.keep [4] (S' := [(4, .slice A_a0 y3.length c_a0)]) (by kernel_rfl) ?_
    exact post_ret (v := .slice A_a0 y3.length c_a0) (fun a ha => RunRes.run (vs := [.slice A_a0 y3.length c_a0]) (.tmp (t := 4) (by kernel_rfl) .nil) ha (by kernel_rfl)) ⟨A_a0, c_a0, rfl, hI⟩
  · rw [if_neg hb5] at h0
    refine CodT.no' (b := y2 == (-1)) (by kernel_rfl) (by simpa using hb5) ?_
    refine CodT.skip ?_
    refine Qn.then ?_
    refine CodT.seq ?_
    refine CodT.seq ?_
    refine CodT.regionL [0, 1, 2] (by kernel_rfl) ?_
    refine OpsT.pures (r := []) [0, 1, 2] [0, 1, 5, 6] (S' := [(0, .slice A_a0 y3.length c_a0), (1, .func (.func 87) #[] #[.pointer (some ⟨b_a1_c0, 0, none⟩), .pointer (some ⟨b_a1_c1, 0, none⟩)]), (5, .int .i64 y2), (6, .int .i64 (wi64 (y2 + 1)))]) (by kernel_rfl) ?_
    refine OpsT.done ?_
    refine Qn.then ?_
    obtain ⟨r1, h1, h0⟩ := bindS h0
    refine CodT.meet1 (fun a w => ∃ (x6 : (List Int)) (x10 : Int), (x6, x10) = r1 ∧ Fr 42 [(0, .slice A_a0 x6.length c_a0), (5, .int .i64 x10)] a ∧ Inv w0 Z w (star (ownS 3 (cI .i64) 1 A_a0 c_a0 x6) A)) ?_ ?_
    ·
      refine CodT.block ?_
      refine (fun a ha => wp_loopN (fun k a w => ∃ (x11 : (List Int)) (x15 : Int) (x16 : Int), slices_DeleteFunc_int__root_put_int_2.l0 a1_c1_v k x11 x15 x16 = some r1 ∧ Fr 42 [(0, .slice A_a0 x11.length c_a0), (1, .func (.func 87) #[] #[.pointer (some ⟨b_a1_c0, 0, none⟩), .pointer (some ⟨b_a1_c1, 0, none⟩)]), (5, .int .i64 x15), (6, .int .i64 x16)] a ∧ Inv w0 Z w (star (ownS 3 (cI .i64) 1 A_a0 c_a0 x11) A)) ?_ FU a w ⟨y3, y2, wi64 (y2 + 1), h1, ha.keep [0, 1, 5, 6] (by kernel_rfl), hI⟩)
      clear h1 hI
      rintro k a w ⟨x11, x15, x16, h1, ha, hI⟩
      rcases k with _ | k
      · cases h1
      simp only [slices_DeleteFunc_int__root_put_int_2.l0] at h1
      refine CodT.of ?_ ha
      refine CodT.seq ?_
      refine CodT.seq ?_
      refine CodT.regionL [0, 1, 2, 3] (by kernel_rfl) ?_
      refine OpsT.pures (r := []) [0, 1, 2, 3] [0, 1, 5, 6, 19] (S' := [(0, .slice A_a0 x11.length c_a0), (1, .func (.func 87) #[] #[.pointer (some ⟨b_a1_c0, 0, none⟩), .pointer (some ⟨b_a1_c1, 0, none⟩)]), (5, .int .i64 x15), (6, .int .i64 x16), (19, .bool (decide (x16 < (x11.length : Int))))]) (by kernel_rfl) ?_
      refine OpsT.done ?_
      refine Qn.then ?_
      by_cases hb17 : (decide (x16 < (x11.length : Int))) = true
      · rw [if_pos hb17] at h1
        refine CodT.yes' (b := decide (x16 < (x11.length : Int))) (by kernel_rfl) hb17 ?_
        refine CodT.skip ?_
        refine Qn.then ?_
        obtain ⟨r2, h2, h1⟩ := bindS h1
        refine CodT.meet (fun a w => ∃ (x18 : (List Int)) (x22 : Int), (x18, x22) = r2 ∧ Fr 42 [(0, .slice A_a0 x18.length c_a0), (1, .func (.func 87) #[] #[.pointer (some ⟨b_a1_c0, 0, none⟩), .pointer (some ⟨b_a1_c1, 0, none⟩)]), (5, .int .i64 x22), (6, .int .i64 x16)] a ∧ Inv w0 Z w (star (ownS 3 (cI .i64) 1 A_a0 c_a0 x18) A)) ?_ ?_
        ·
          refine CodT.block ?_
          refine CodT.seq ?_
          refine CodT.regionL [0, 1, 2, 3, 4] (by kernel_rfl) ?_
          refine OpsT.pures (r := [2, 3, 4]) [0, 1] [0, 1, 5, 6, 22, 23] (S' := [(0, .slice A_a0 x11.length c_a0), (1, .func (.func 87) #[] #[.pointer (some ⟨b_a1_c0, 0, none⟩), .pointer (some ⟨b_a1_c1, 0, none⟩)]), (5, .int .i64 x15), (6, .int .i64 x16), (22, .slice A_a0 x11.length c_a0), (23, .int .i64 x16)]) (by kernel_rfl) ?_
          obtain ⟨hg23, h2⟩ := guardS h2
          obtain ⟨g24, hA25, hr26, hl27⟩ := ownS_get hI hg23.1 hg23.2
          refine OpsT.cons (Does.yi (Yl.indexSlice (d := 24) (T := 23) (cc := c_a0) (k := .i64) (j := x16) (g := g24) (o := 0) (by kernel_rfl) Go.Proofs.Try.underlying23 ty3 hA25 hg23.1 hg23.2) hI ?_)
          refine OpsT.cons (Does.yi (Yl.load (d := 25) (T := 3) (v := .int .i64 (gt x11 x16)) (by kernel_rfl) (ldR ty3 (v := .int .i64 (gt x11 x16)) 0 (fun w hC => hr26 w0 w _ hC) (by kernel_rfl))) hI ?_)
          refine OpsT.pures (r := []) [4] [0, 1, 5, 6, 7] (S' := [(0, .slice A_a0 x11.length c_a0), (1, .func (.func 87) #[] #[.pointer (some ⟨b_a1_c0, 0, none⟩), .pointer (some ⟨b_a1_c1, 0, none⟩)]), (5, .int .i64 x15), (6, .int .i64 x16), (7, .int .i64 (gt x11 x16))]) (by kernel_rfl) ?_
          refine OpsT.done ?_
          refine Qn.then ?_
          refine CodT.seq ?_
          refine CodT.regionL [0, 1, 2, 3] (by kernel_rfl) ?_
          refine OpsT.pures (r := [2, 3]) [0, 1] [0, 1, 5, 6, 7, 26, 27] (S' := [(0, .slice A_a0 x11.length c_a0), (1, .func (.func 87) #[] #[.pointer (some ⟨b_a1_c0, 0, none⟩), .pointer (some ⟨b_a1_c1, 0, none⟩)]), (5, .int .i64 x15), (6, .int .i64 x16), (7, .int .i64 (gt x11 x16)), (26, .func (.func 87) #[] #[.pointer (some ⟨b_a1_c0, 0, none⟩), .pointer (some ⟨b_a1_c1, 0, none⟩)]), (27, .int .i64 (gt x11 x16))]) (by kernel_rfl) ?_
          obtain ⟨y29, hc28, h2⟩ := bindS h2
          try dsimp only at h2
          refine OpsT.cons (Does.call (d := some 28) (n := 87) (vs := [.int .i64 (gt x11 x16), .pointer (some ⟨b_a1_c0, 0, none⟩), .pointer (some ⟨b_a1_c1, 0, none⟩)]) (by kernel_rfl) en87 (c87 w0 w _ _ hI (gt x11 x16) b_a1_c0 hz_a1_c0 b_a1_c1 a1_c1_v hz_a1_c1 _ hc28) ?_)
          rintro e w ⟨rfl, hI⟩
          refine ⟨_, rfl, ?_⟩
          refine OpsT.pures (r := []) [3] [0, 1, 5, 6, 7, 29] (S' := [(0, .slice A_a0 x11.length c_a0), (1, .func (.func 87) #[] #[.pointer (some ⟨b_a1_c0, 0, none⟩), .pointer (some ⟨b_a1_c1, 0, none⟩)]), (5, .int .i64 x15), (6, .int .i64 x16), (7, .int .i64 (gt x11 x16)), (29, .bool (!y29))]) (by kernel_rfl) ?_
          refine OpsT.done ?_
          refine Qn.then ?_
          by_cases hb30 : (!y29) = true
          · rw [if_pos hb30] at h2
            refine CodT.yes' (b := !y29) (by kernel_rfl) hb30 ?_
            refine CodT.seq ?_
            refine CodT.regionL [0, 1, 2, 3, 4] (by kernel_rfl) ?_
            refine OpsT.pures (r := [3, 4]) [0, 1, 2] [0, 1, 5, 6, 30, 31, 32] (S' := [(0, .slice A_a0 x11.length c_a0), (1, .func (.func 87) #[] #[.pointer (some ⟨b_a1_c0, 0, none⟩), .pointer (some ⟨b_a1_c1, 0, none⟩)]), (5, .int .i64 x15), (6, .int .i64 x16), (30, .slice A_a0 x11.length c_a0), (31, .int .i64 x15), (32, .int .i64 (gt x11 x16))]) (by kernel_rfl) ?_
            obtain ⟨hg31, h2⟩ := guardS h2
            obtain ⟨g32, hA33, hr34, hl35⟩ := ownS_get hI hg31.1 hg31.2
            refine OpsT.cons (Does.yi (Yl.indexSlice (d := 33) (T := 23) (cc := c_a0) (k := .i64) (j := x15) (g := g32) (o := 0) (by kernel_rfl) Go.Proofs.Try.underlying23 ty3 hA33 hg31.1 hg31.2) hI ?_)
            refine OpsT.cons (Does.storeElem (T := 3) (j := x15) (k := 0) (v := .int .i64 (gt x11 x16)) (vs := ([.int .i64 (gt x11 x16)] : List Value)) (gt x11 x16) (by kernel_rfl) ty3 hA33 hI hg31.1 hg31.2 (by kernel_rfl) (by kernel_rfl) (by kernel_rfl) (by kernel_rfl) (by kernel_rfl) ?_)
            intro w hI
            refine OpsT.keep [0, 1, 5, 6, 30, 31, 32] (S' := [(0, .slice A_a0 ((st x11 x15 (gt x11 x16)).length) c_a0), (1, .func (.func 87) #[] #[.pointer (some ⟨b_a1_c0, 0, none⟩), .pointer (some ⟨b_a1_c1, 0, none⟩)]), (5, .int .i64 x15), (6, .int .i64 x16), (30, .slice A_a0 ((st x11 x15 (gt x11 x16)).length) c_a0), (31, .int .i64 x15), (32, .int .i64 (gt x11 x16))]) (by simp only [st_length]; kernel_rfl) ?_
            refine OpsT.done ?_
            refine Qn.then ?_
            refine CodT.regionL [0, 1, 2] (by kernel_rfl) ?_
            refine OpsT.pures (r := []) [0, 1, 2] [0, 1, 5, 6] (S' := [(0, .slice A_a0 ((st x11 x15 (gt x11 x16)).length) c_a0), (1, .func (.func 87) #[] #[.pointer (some ⟨b_a1_c0, 0, none⟩), .pointer (some ⟨b_a1_c1, 0, none⟩)]), (5, .int .i64 (wi64 (x15 + 1))), (6, .int .i64 x16)]) (by kernel_rfl) ?_
            refine OpsT.done ?_
            refine Qn.block_normal ?_
            have e := someS h2
            subst e
            exact Qn.thenJ fun a ha => ⟨st x11 x15 (gt x11 x16), wi64 (x15 + 1), rfl, ha.keep [0, 1, 5, 6] (by kernel_rfl), hI⟩
          · rw [if_neg hb30] at h2
            refine CodT.no' (b := !y29) (by kernel_rfl) (by simpa using hb30) ?_
            refine CodT.skip ?_
            refine Qn.block_normal ?_
            have e := someS h2
            subst e
            exact Qn.thenJ fun a ha => ⟨x11, x15, rfl, ha.keep [0, 1, 5, 6] (by kernel_rfl), hI⟩
        ·
          rintro a w ⟨x18, x22, rfl, ha, hI⟩
          try dsimp only at h1
          refine CodT.of ?_ ha
          refine CodT.regionL [0, 1, 2] (by kernel_rfl) ?_
          refine OpsT.pures (r := []) [0, 1, 2] [0, 1, 5, 6] (S' := [(0, .slice A_a0 x18.length c_a0), (1, .func (.func 87) #[] #[.pointer (some ⟨b_a1_c0, 0, none⟩), .pointer (some ⟨b_a1_c1, 0, none⟩)]), (5, .int .i64 x22), (6, .int .i64 (wi64 (x16 + 1)))]) (by kernel_rfl) ?_
          refine OpsT.done ?_
          exact Qn.thenJ fun a ha => ⟨k, Nat.lt_succ_self k, x18, x22, wi64 (x16 + 1), h1, ha.keep [0, 1, 5, 6] (by kernel_rfl), hI⟩
      · rw [if_neg hb17] at h1
        refine CodT.no' (b := decide (x16 < (x11.length : Int))) (by kernel_rfl) (by simpa using hb17) ?_
        refine CodT.exit ?_
        refine Qn.exit_then ?_
        refine Qn.exit_then ?_
        refine Qn.block ?_
        have e := someS h1
        subst e
        exact Qn.thenJ fun a ha => ⟨x11, x15, rfl, ha.keep [0, 5] (by kernel_rfl), hI⟩
    ·
      rintro a w ⟨x6, x10, rfl, ha, hI⟩
      try dsimp only at h0
      refine Qn.of ?_ ha
      refine Qn.then ?_
      refine CodT.seq ?_
      refine CodT.regionL [0, 1, 2, 3] (by kernel_rfl) ?_
      refine OpsT.pures (r := [2, 3]) [0, 1] [0, 5, 36, 37] (S' := [(0, .slice A_a0 x6.length c_a0), (5, .int .i64 x10), (36, .slice A_a0 x6.length c_a0), (37, .int .i64 x10)]) (by kernel_rfl) ?_
      obtain ⟨hg36, h0⟩ := guardS h0
      obtain ⟨A38, hA37⟩ : ∃ x, subA A_a0 c_a0 x10 1 = x := ⟨_, rfl⟩
      obtain ⟨m39, hm41⟩ : ∃ x, x = ((x6.length : Int)).toNat - (x10 : Int).toNat := ⟨_, rfl⟩
      refine OpsT.cons (Does.yi (Yl.sub (lo := (some (.int .i64 x10))) (hi := none) (d := 38) (T := 23) (a := x10) (b := (x6.length : Int)) (by kernel_rfl) Go.Proofs.Try.underlying23 ty3 (.inl ⟨_, rfl⟩) (.inr ⟨rfl, rfl⟩) hg36 (ownS_facts hI).1 (m := m39) hm41 hA37 rfl) hI ?_)
      refine OpsT.cons (Does.clearOwn (t := 23) (ty := 0) (c' := c_a0 - (x10 : Int).toNat) (ys := x6) (lo := x10) (0 : Int) (by kernel_rfl) Go.Proofs.Try.underlying23 ty3 ⟨hg36.1, hg36.2.1⟩ rfl (by kernel_rfl) (by kernel_rfl) ⟨hA37, hm41⟩ hI ?_)
      intro w hI
      refine OpsT.keep [0, 5, 36, 37] (S' := [(0, .slice A_a0 ((clr (0) x6 x10).length) c_a0), (5, .int .i64 x10), (36, .slice A_a0 ((clr (0) x6 x10).length) c_a0), (37, .int .i64 x10)]) (by simp only [clr_len _ _ ⟨hg36.1, hg36.2.1⟩]; kernel_rfl) ?_
      refine OpsT.done ?_
      refine Qn.then ?_
      refine CodT.seq ?_
      refine CodT.regionL [0, 1, 2, 3] (by kernel_rfl) ?_
      refine OpsT.pures (r := [2, 3]) [0, 1] [39, 40] (S' := [(39, .slice A_a0 ((clr (0) x6 x10).length) c_a0), (40, .int .i64 x10)]) (by kernel_rfl) ?_
      obtain ⟨hg42, h0⟩ := guardS h0
      have hA43 := ownS_sub0 hI
      have hl44 := sub_length (clr (0) x6 x10) hg42
      refine OpsT.cons (Does.yi (Yl.sub (lo := none) (hi := (some (.int .i64 x10))) (d := 41) (T := 23) (a := 0) (b := x10) (by kernel_rfl) Go.Proofs.Try.underlying23 ty3 (.inr ⟨rfl, rfl⟩) (.inl ⟨_, rfl⟩) hg42 (ownS_facts hI).1 (m := (sub (clr (0) x6 x10) 0 x10).length) (sub_length _ hg42) hA43 rfl) hI ?_)
      have hI := ownS_prefix hI hg42
      refine OpsT.pures (r := []) [3] [4] (S' := [(4, .slice A_a0 ((sub (clr (0) x6 x10) 0 x10).length) c_a0)]) (by kernel_rfl) ?_
      refine OpsT.done ?_
      refine Qn.then ?_
      refine CodT.ret ?_
      have e := someS h0
      subst e
      refine Qn.keep [4] (S' := [(4, .slice A_a0 ((sub (clr (0) x6 x10) 0 x10).length) c_a0)]) (by kernel_rfl) ?_
      exact post_ret (v := .slice A_a0 ((sub (clr (0) x6 x10) 0 x10).length) c_a0) (fun a ha => RunRes.run (vs := [.slice A_a0 ((sub (clr (0) x6 x10) 0 x10).length) c_a0]) (.tmp (t := 4) (by kernel_rfl) .nil) ha (by kernel_rfl)) ⟨A_a0, c_a0, rfl, hI⟩
set_option maxRecDepth 100000 in
set_option maxHeartbeats 4000000 in
/-- cenotaph/root.put[int] -/
theorem c64 (w0 w : World) (Z : Hp) (A : HP) (hI : Inv w0 Z w A) (A_a0 : Option Addr) (c_a0 : Nat) (a0 : (List Int)) (hr_a0 : RdS Z (cI .i64) 1 A_a0 c_a0 a0) (a1 : Int) (r : (List Int)) (h0 : root_put_int__root_self a0 a1 = some r) :
    Calls prog 64 #[.slice A_a0 a0.length c_a0, .int .i64 a1, .func (.func 44) #[] #[]] w (fun e w' => ∃ (A1 : Option Addr) (c1 : Nat), e = .returned (.slice A1 r.length c1) ∧ Inv w0 Z w' (star (ownS 3 (cI .i64) 1 A1 c1 r) A)) := by
  have e4 := calls_intro (R := (fun e w' => ∃ (A1 : Option Addr) (c1 : Nat), e = .returned (.slice A1 r.length c1) ∧ Inv w0 Z w' (star (ownS 3 (cI .i64) 1 A1 c1 r) A))) (w := w) (args := [.slice A_a0 a0.length c_a0, .int .i64 a1, .func (.func 44) #[] #[]]) (fn := Go.Proofs.Try.f64) 41 Go.Proofs.Try.func64 (by rfl) Go.Proofs.Try.ntmps64 (by kernel_rfl)
  refine e4 ?_
  clear e4
  unfold root_put_int__root_self at h0
  refine CodT.seq ?_
  refine CodT.regionL [0, 1] (by kernel_rfl) ?_
  refine OpsT.cons (Does.boxL (d := 5) (T := 79) (v := .func (.func 44) #[] #[]) (([.func (.func 44) #[] #[]] : List Value)) (by kernel_rfl) hI (by kernel_rfl) ?_)
  intro b1 w hI
  refine OpsT.pures (r := []) [1] [0, 1, 5] (S' := [(0, .slice A_a0 a0.length c_a0), (1, .int .i64 a1), (5, .pointer (some ⟨b1, 0, none⟩))]) (by kernel_rfl) ?_
  refine OpsT.done ?_
  refine Qn.then ?_
  refine CodT.seq ?_
  refine CodT.regionL [0, 1, 2, 3, 4] (by kernel_rfl) ?_
  refine OpsT.cons (Does.yi (Yl.load (d := 12) (T := 79) (v := .func (.func 44) #[] #[]) (by kernel_rfl) (ldB ty79 (l := ([.func (.func 44) #[] #[]] : List Value)) (o := 0) (v := .func (.func 44) #[] #[]) (ent_refl _) (by kernel_rfl))) hI ?_)
  refine OpsT.pures (r := [2, 3, 4]) [1] [0, 1, 5, 12, 13] (S' := [(0, .slice A_a0 a0.length c_a0), (1, .int .i64 a1), (5, .pointer (some ⟨b1, 0, none⟩)), (12, .func (.func 44) #[] #[]), (13, .int .i64 a1)]) (by kernel_rfl) ?_
  obtain ⟨y3, hc2, h0⟩ := bindS h0
  try dsimp only at h0
  refine OpsT.cons (Does.call (d := some 14) (n := 44) (vs := [.int .i64 a1]) (by kernel_rfl) en44 (c44 w0 w _ _ hI a1 _ hc2) ?_)
  rintro e w ⟨rfl, hI⟩
  refine ⟨_, rfl, ?_⟩
  refine OpsT.cons (Does.allocL (d := 7) (T := 3) (([.int .i64 0] : List Value)) (by kernel_rfl) ty3 hI (by kernel_rfl) ?_)
  intro b4 w hI
  refine OpsT.cons (Does.storeLit (T := 3) (b := b4) (o := 0) (v := .int .i64 y3) (l := ([.int .i64 0] : List Value)) (vs := ([.int .i64 y3] : List Value)) (L' := ([.int .i64 y3] : List Value)) (by kernel_rfl) ty3 hI (by kernel_rfl) (by kernel_rfl) (by kernel_rfl) (by kernel_rfl) (by kernel_rfl) ?_)
  intro w hI
  refine OpsT.done ?_
  refine Qn.then ?_
  refine CodT.seq ?_
  have hI := hI.mono (pick2 _ _ _)
  obtain ⟨Z5, hle6, hz7, hI⟩ := pt_freeze hI
  obtain ⟨Z8, hle9, hz10, hI⟩ := pt_freeze hI
  refine CodT.regionL [0, 1, 2, 3] (by kernel_rfl) ?_
  refine OpsT.pures (r := [2, 3]) [0, 1] [0, 1, 5, 7, 15, 16] (S' := [(0, .slice A_a0 a0.length c_a0), (1, .int .i64 a1), (5, .pointer (some ⟨b1, 0, none⟩)), (7, .pointer (some ⟨b4, 0, none⟩)), (15, .slice A_a0 a0.length c_a0), (16, .func (.func 86) #[] #[.pointer (some ⟨b1, 0, none⟩), .pointer (some ⟨b4, 0, none⟩)])]) (by kernel_rfl) ?_
  obtain ⟨y12, hc11, h0⟩ := bindS h0
  try dsimp only at h0
  refine OpsT.cons (Does.call (d := some 17) (n := 77) (vs := [.slice A_a0 a0.length c_a0, .func (.func 86) #[] #[.pointer (some ⟨b1, 0, none⟩), .pointer (some ⟨b4, 0, none⟩)]]) (by kernel_rfl) en77 (c77_2 w0 w _ _ hI A_a0 c_a0 a0 (hr_a0.mono (Hp.le_trans hle6 hle9)) b1 (hle9 _ _ hz7) b4 y3 hz10 _ hc11) ?_)
  rintro e w ⟨rfl, hI⟩
  refine ⟨_, rfl, ?_⟩
  refine OpsT.pures (r := []) [3] [0, 1, 5, 7, 8] (S' := [(0, .slice A_a0 a0.length c_a0), (1, .int .i64 a1), (5, .pointer (some ⟨b1, 0, none⟩)), (7, .pointer (some ⟨b4, 0, none⟩)), (8, .int .i64 y12)]) (by kernel_rfl) ?_
  refine OpsT.done ?_
  refine Qn.then ?_
  obtain ⟨r1, h1, h0⟩ := bindS h0
  refine CodT.meet (fun a w => ∃ (x13 : Int), x13 = r1 ∧ Fr 41 [(0, .slice A_a0 a0.length c_a0), (1, .int .i64 a1), (5, .pointer (some ⟨b1, 0, none⟩)), (7, .pointer (some ⟨b4, 0, none⟩)), (8, .int .i64 x13)] a ∧ Inv w0 Z8 w A) ?_ ?_
  ·
    refine CodT.seq ?_
    refine CodT.regionL [0, 1] (by kernel_rfl) ?_
    refine OpsT.pures (r := []) [0, 1] [0, 1, 5, 7, 8, 19] (S' := [(0, .slice A_a0 a0.length c_a0), (1, .int .i64 a1), (5, .pointer (some ⟨b1, 0, none⟩)), (7, .pointer (some ⟨b4, 0, none⟩)), (8, .int .i64 y12), (19, .bool (decide (y12 < 0)))]) (by kernel_rfl) ?_
    refine OpsT.done ?_
    refine Qn.then ?_
    by_cases hb14 : (decide (y12 < 0)) = true
    · rw [if_pos hb14] at h1
      refine CodT.yes' (b := decide (y12 < 0)) (by kernel_rfl) hb14 ?_
      refine CodT.regionL [0, 1, 2] (by kernel_rfl) ?_
      refine OpsT.pures (r := []) [0, 1, 2] [0, 1, 5, 7, 8] (S' := [(0, .slice A_a0 a0.length c_a0), (1, .int .i64 a1), (5, .pointer (some ⟨b1, 0, none⟩)), (7, .pointer (some ⟨b4, 0, none⟩)), (8, .int .i64 (a0.length : Int))]) (by kernel_rfl) ?_
      refine OpsT.done ?_
      have e := someS h1
      subst e
      exact Qn.thenJ fun a ha => ⟨(a0.length : Int), rfl, ha.keep [0, 1, 5, 7, 8] (by kernel_rfl), hI⟩
    · rw [if_neg hb14] at h1
      refine CodT.no' (b := decide (y12 < 0)) (by kernel_rfl) (by simpa using hb14) ?_
      refine CodT.skip ?_
      have e := someS h1
      subst e
      exact Qn.thenJ fun a ha => ⟨y12, rfl, ha.keep [0, 1, 5, 7, 8] (by kernel_rfl), hI⟩
  ·
    rintro a w ⟨x13, rfl, ha, hI⟩
    try dsimp only at h0
    refine CodT.of ?_ ha
    refine CodT.seq ?_
    refine CodT.regionL [0, 1] (by kernel_rfl) ?_
    refine OpsT.pures (r := []) [0, 1] [0, 1, 8, 9] (S' := [(0, .slice A_a0 a0.length c_a0), (1, .int .i64 a1), (8, .int .i64 x13), (9, .func (.func 87) #[] #[.pointer (some ⟨b1, 0, none⟩), .pointer (some ⟨b4, 0, none⟩)])]) (by kernel_rfl) ?_
    refine OpsT.done ?_
    refine Qn.then ?_
    refine CodT.seq ?_
    refine CodT.regionL [0, 1, 2, 3, 4, 5, 6] (by kernel_rfl) ?_
    refine OpsT.pures (r := [2, 3, 4, 5, 6]) [0, 1] [0, 1, 8, 9, 23, 24] (S' := [(0, .slice A_a0 a0.length c_a0), (1, .int .i64 a1), (8, .int .i64 x13), (9, .func (.func 87) #[] #[.pointer (some ⟨b1, 0, none⟩), .pointer (some ⟨b4, 0, none⟩)]), (23, .slice A_a0 a0.length c_a0), (24, .int .i64 x13)]) (by kernel_rfl) ?_
    obtain ⟨hg15, h0⟩ := guardS h0
    have hf21 := (hr_a0.mono (Hp.le_trans hle6 hle9))
    have hr18 := RdS.sub hf21 hg15
    obtain ⟨A16, hA19⟩ : ∃ x, subA A_a0 c_a0 0 1 = x := ⟨_, rfl⟩
    obtain ⟨cp17, hc20⟩ : ∃ x, c_a0 - (0 : Int).toNat = x := ⟨_, rfl⟩
    rw [hA19, hc20] at hr18
    refine OpsT.cons (Does.yi (Yl.sub (lo := none) (hi := (some (.int .i64 x13))) (d := 25) (T := 23) (a := 0) (b := x13) (by kernel_rfl) Go.Proofs.Try.underlying23 ty3 (.inr ⟨rfl, rfl⟩) (.inl ⟨_, rfl⟩) hg15 hf21.1 (sub_length _ hg15) hA19 hc20) hI ?_)
    obtain ⟨y23, hc22, h0⟩ := bindS h0
    try dsimp only at h0
    refine OpsT.cons (Does.call (d := some 26) (n := 89) (vs := [.slice A16 ((sub a0 0 x13).length) cp17]) (by kernel_rfl) en89 (c89 w0 w _ _ hI A16 cp17 (sub a0 0 x13) hr18 _ hc22) ?_)
    rintro e w ⟨A24, cp25, rfl, hI⟩
    refine ⟨_, rfl, ?_⟩
    refine OpsT.pures (r := [5, 6]) [4] [0, 1, 8, 9, 26, 27] (S' := [(0, .slice A_a0 a0.length c_a0), (1, .int .i64 a1), (8, .int .i64 x13), (9, .func (.func 87) #[] #[.pointer (some ⟨b1, 0, none⟩), .pointer (some ⟨b4, 0, none⟩)]), (26, .slice A24 y23.length cp25), (27, .func (.func 87) #[] #[.pointer (some ⟨b1, 0, none⟩), .pointer (some ⟨b4, 0, none⟩)])]) (by kernel_rfl) ?_
    obtain ⟨y27, hc26, h0⟩ := bindS h0
    try dsimp only at h0
    refine OpsT.cons (Does.call (d := some 28) (n := 88) (vs := [.slice A24 y23.length cp25, .func (.func 87) #[] #[.pointer (some ⟨b1, 0, none⟩), .pointer (some ⟨b4, 0, none⟩)]]) (by kernel_rfl) en88 (c88 w0 w _ _ A24 cp25 y23 b1 (hle9 _ _ hz7) b4 y3 hz10 hI _ hc26) ?_)
    rintro e w ⟨A28, cp29, rfl, hI⟩
    refine ⟨_, rfl, ?_⟩
    refine OpsT.pures (r := []) [6] [0, 1, 8, 9, 10] (S' := [(0, .slice A_a0 a0.length c_a0), (1, .int .i64 a1), (8, .int .i64 x13), (9, .func (.func 87) #[] #[.pointer (some ⟨b1, 0, none⟩), .pointer (some ⟨b4, 0, none⟩)]), (10, .slice A28 y27.length cp29)]) (by kernel_rfl) ?_
    refine OpsT.done ?_
    refine Qn.then ?_
    refine CodT.seq ?_
    refine CodT.regionL [0, 1, 2, 3, 4, 5, 6] (by kernel_rfl) ?_
    refine OpsT.pures (r := [2, 3, 4, 5, 6]) [0, 1] [1, 9, 10, 29, 30] (S' := [(1, .int .i64 a1), (9, .func (.func 87) #[] #[.pointer (some ⟨b1, 0, none⟩), .pointer (some ⟨b4, 0, none⟩)]), (10, .slice A28 y27.length cp29), (29, .slice A_a0 a0.length c_a0), (30, .int .i64 x13)]) (by kernel_rfl) ?_
    obtain ⟨hg30, h0⟩ := guardS h0
    have hf36 := (hr_a0.mono (Hp.le_trans hle6 hle9))
    have hr33 := RdS.sub hf36 hg30
    obtain ⟨A31, hA34⟩ : ∃ x, subA A_a0 c_a0 x13 1 = x := ⟨_, rfl⟩
    obtain ⟨cp32, hc35⟩ : ∃ x, c_a0 - (x13 : Int).toNat = x := ⟨_, rfl⟩
    rw [hA34, hc35] at hr33
    refine OpsT.cons (Does.yi (Yl.sub (lo := (some (.int .i64 x13))) (hi := none) (d := 31) (T := 23) (a := x13) (b := (a0.length : Int)) (by kernel_rfl) Go.Proofs.Try.underlying23 ty3 (.inl ⟨_, rfl⟩) (.inr ⟨rfl, rfl⟩) hg30 hf36.1 (sub_length _ hg30) hA34 hc35) hI ?_)
    obtain ⟨y38, hc37, h0⟩ := bindS h0
    try dsimp only at h0
    refine OpsT.cons (Does.call (d := some 32) (n := 89) (vs := [.slice A31 ((sub a0 x13 (a0.length : Int)).length) cp32]) (by kernel_rfl) en89 (c89 w0 w _ _ hI A31 cp32 (sub a0 x13 (a0.length : Int)) hr33 _ hc37) ?_)
    rintro e w ⟨A39, cp40, rfl, hI⟩
    refine ⟨_, rfl, ?_⟩
    refine OpsT.pures (r := [5, 6]) [4] [1, 10, 32, 33] (S' := [(1, .int .i64 a1), (10, .slice A28 y27.length cp29), (32, .slice A39 y38.length cp40), (33, .func (.func 87) #[] #[.pointer (some ⟨b1, 0, none⟩), .pointer (some ⟨b4, 0, none⟩)])]) (by kernel_rfl) ?_
    obtain ⟨y42, hc41, h0⟩ := bindS h0
    try dsimp only at h0
    refine OpsT.cons (Does.call (d := some 34) (n := 88) (vs := [.slice A39 y38.length cp40, .func (.func 87) #[] #[.pointer (some ⟨b1, 0, none⟩), .pointer (some ⟨b4, 0, none⟩)]]) (by kernel_rfl) en88 (c88 w0 w _ _ A39 cp40 y38 b1 (hle9 _ _ hz7) b4 y3 hz10 hI _ hc41) ?_)
    rintro e w ⟨A43, cp44, rfl, hI⟩
    refine ⟨_, rfl, ?_⟩
    refine OpsT.pures (r := []) [6] [1, 10, 11] (S' := [(1, .int .i64 a1), (10, .slice A28 y27.length cp29), (11, .slice A43 y42.length cp44)]) (by kernel_rfl) ?_
    refine OpsT.done ?_
    refine Qn.then ?_
    refine CodT.seq ?_
    refine CodT.regionL [0, 1, 2, 3, 4, 5, 6] (by kernel_rfl) ?_
    refine OpsT.pures (r := [2, 3, 4, 5, 6]) [0, 1] [11, 35, 36] (S' := [(11, .slice A43 y42.length cp44), (35, .slice A28 y27.length cp29), (36, .int .i64 a1)]) (by kernel_rfl) ?_
    refine OpsT.cons (Does.buildSlice (en := (cI .i64)) (d := 37) (n := 1) (T := 23) (ps := [(0, .int .i64 a1)]) ([a1] : List Int) (by kernel_rfl) Go.Proofs.Try.underlying23 ty3 (by kernel_rfl) (by kernel_rfl) (by kernel_rfl) (by kernel_rfl) (len_all (fun _ => rfl)) hI ?_)
    intro b45 w hI
    obtain ⟨hg46, h0⟩ := guardS h0
    have hI := hI.mono (pick3 _ _ _ _)
    refine OpsT.cons (Does.append (d := 38) (t := 23) (tx := 23) (ty := 23) (ys := y27) (zs := ([a1] : List Int)) (x := .slice (some ⟨b45, 0, none⟩) (([a1] : List Int).length) 1) (by kernel_rfl) Go.Proofs.Try.underlying23 ty3 (by kernel_rfl) hI (src_own Go.Proofs.Try.underlying23 (hI.mono (pick2 _ _ _)) (one_flat _ (fun _ => rfl))) (ownS_facts (hI.mono (pick2 _ _ _))).2.2 (by unfold LIM at hg46; omega) hg46 ?_)
    intro A47 cp48 w hI
    refine OpsT.pures (r := [5, 6]) [4] [38, 39] (S' := [(38, .slice A47 ((y27 ++ ([a1] : List Int)).length) cp48), (39, .slice A43 y42.length cp44)]) (by kernel_rfl) ?_
    obtain ⟨hg49, h0⟩ := guardS h0
    refine OpsT.cons (Does.append (d := 40) (t := 23) (tx := 23) (ty := 23) (ys := y27 ++ ([a1] : List Int)) (zs := y42) (x := .slice A43 y42.length cp44) (by kernel_rfl) Go.Proofs.Try.underlying23 ty3 (by kernel_rfl) hI (src_own Go.Proofs.Try.underlying23 (hI.mono (pick3 _ _ _ _)) (one_flat _ (fun _ => rfl))) (ownS_facts (hI.mono (pick3 _ _ _ _))).2.2 (by unfold LIM at hg49; omega) hg49 ?_)
    intro A50 cp51 w hI
    refine OpsT.pures (r := []) [6] [6] (S' := [(6, .slice A50 (((y27 ++ ([a1] : List Int)) ++ y42).length) cp51)]) (by kernel_rfl) ?_
    refine OpsT.done ?_
    refine Qn.then ?_
    refine CodT.ret ?_
    have hI := hI.mono (pick2 _ _ _)
    have hI := hI.drop
    have hI := hI.mono (pick2 _ _ _)
    have hI := hI.drop
    have e := someS h0
    subst e
    refine Qn.keep [6] (S' := [(6, .slice A50 (((y27 ++ ([a1] : List Int)) ++ y42).length) cp51)]) (by kernel_rfl) ?_
    exact post_ret (v := .slice A50 (((y27 ++ ([a1] : List Int)) ++ y42).length) cp51) (fun a ha => RunRes.run (vs := [.slice A50 (((y27 ++ ([a1] : List Int)) ++ y42).length) cp51]) (.tmp (t := 6) (by kernel_rfl) .nil) ha (by kernel_rfl)) ⟨A50, cp51, rfl, hI.weaken (Hp.le_trans hle6 hle9)⟩
set_option maxRecDepth 100000 in
set_option maxHeartbeats 4000000 in
/-- cenotaph/root.Lose -/
theorem c23 (w0 w : World) (Z : Hp) (A : HP) (hI : Inv w0 Z w A) (A_a0_Map : Option Addr) (c_a0_Map : Nat) (a0_Map : (List RootEntry)) (hr_a0_Map : RdS Z c_RootEntry 4 A_a0_Map c_a0_Map a0_Map) (A_a0_Gone : Option Addr) (c_a0_Gone : Nat) (a0_Gone : (List Int)) (hr_a0_Gone : RdS Z (cI .i64) 1 A_a0_Gone c_a0_Gone a0_Gone) (a1 : Int) (r : ((List RootEntry) × (List Int))) (h0 : root_Lose a0_Map a0_Gone a1 = some r) :
    Calls prog 23 #[.agg ((([.slice A_a0_Map a0_Map.length c_a0_Map, .slice A_a0_Gone a0_Gone.length c_a0_Gone] : List Value))).toArray, .int .i64 a1] w (fun e w' => ∃ (A1 : Option Addr) (c1 : Nat) (A2 : Option Addr) (c2 : Nat) (Z' : Hp), Z.le Z' ∧ e = .returned (.agg ((([.slice A1 r.1.length c1, .slice A2 r.2.length c2] : List Value))).toArray) ∧ RdS Z' c_RootEntry 4 A1 c1 r.1 ∧ Inv w0 Z' w' (star (ownS 3 (cI .i64) 1 A2 c2 r.2) A)) := by
  have e4 := calls_intro (R := (fun e w' => ∃ (A1 : Option Addr) (c1 : Nat) (A2 : Option Addr) (c2 : Nat) (Z' : Hp), Z.le Z' ∧ e = .returned (.agg ((([.slice A1 r.1.length c1, .slice A2 r.2.length c2] : List Value))).toArray) ∧ RdS Z' c_RootEntry 4 A1 c1 r.1 ∧ Inv w0 Z' w' (star (ownS 3 (cI .i64) 1 A2 c2 r.2) A))) (w := w) (args := [.agg ((([.slice A_a0_Map a0_Map.length c_a0_Map, .slice A_a0_Gone a0_Gone.length c_a0_Gone] : List Value))).toArray, .int .i64 a1]) (fn := Go.Proofs.Try.f23) 11 Go.Proofs.Try.func23 (by rfl) Go.Proofs.Try.ntmps23 (by kernel_rfl)
  refine e4 ?_
  clear e4
  unfold root_Lose at h0
  refine CodT.seq ?_
  refine CodT.regionL [0, 1] (by kernel_rfl) ?_
  refine OpsT.cons (Does.boxL (d := 2) (T := 25) (v := .agg ((([.slice A_a0_Map a0_Map.length c_a0_Map, .slice A_a0_Gone a0_Gone.length c_a0_Gone] : List Value))).toArray) ((([.slice A_a0_Map a0_Map.length c_a0_Map, .slice A_a0_Gone a0_Gone.length c_a0_Gone] : List Value))) (by kernel_rfl) hI (by kernel_rfl) ?_)
  intro b1 w hI
  refine OpsT.cons (Does.allocL (d := 4) (T := 25) ((([.slice none 0 0, .slice none 0 0] : List Value))) (by kernel_rfl) ty25 hI (by kernel_rfl) ?_)
  intro b2 w hI
  refine OpsT.done ?_
  refine Qn.then ?_
  refine CodT.seq ?_
  refine CodT.regionL [0, 1, 2, 3, 4, 5] (by kernel_rfl) ?_
  refine OpsT.pures (r := [1, 2, 3, 4, 5]) [0] [1, 2, 4, 5] (S' := [(1, .int .i64 a1), (2, .pointer (some ⟨b1, 0, none⟩)), (4, .pointer (some ⟨b2, 0, none⟩)), (5, .pointer (some ⟨b1, 1, none⟩))]) (by kernel_rfl) ?_
  refine OpsT.cons (Does.yi (Yl.load (d := 6) (T := 23) (v := .slice A_a0_Gone a0_Gone.length c_a0_Gone) (by kernel_rfl) (ldB ty23 (l := (([.slice A_a0_Map a0_Map.length c_a0_Map, .slice A_a0_Gone a0_Gone.length c_a0_Gone] : List Value))) (o := 1) (v := .slice A_a0_Gone a0_Gone.length c_a0_Gone) (pick2 _ _ _) (by kernel_rfl))) hI ?_)
  refine OpsT.pures (r := [3, 4, 5]) [2] [2, 4, 6, 7] (S' := [(2, .pointer (some ⟨b1, 0, none⟩)), (4, .pointer (some ⟨b2, 0, none⟩)), (6, .slice A_a0_Gone a0_Gone.length c_a0_Gone), (7, .int .i64 a1)]) (by kernel_rfl) ?_
  obtain ⟨y4, hc3, h0⟩ := bindS h0
  try dsimp only at h0
  refine OpsT.cons (Does.call (d := some 8) (n := 64) (vs := [.slice A_a0_Gone a0_Gone.length c_a0_Gone, .int .i64 a1, .func (.func 44) #[] #[]]) (by kernel_rfl) en64 (c64 w0 w _ _ hI A_a0_Gone c_a0_Gone a0_Gone hr_a0_Gone a1 _ hc3) ?_)
  rintro e w ⟨A5, cp6, rfl, hI⟩
  refine ⟨_, rfl, ?_⟩
  refine OpsT.pures (r := [5]) [4] [2, 4, 8, 9] (S' := [(2, .pointer (some ⟨b1, 0, none⟩)), (4, .pointer (some ⟨b2, 0, none⟩)), (8, .slice A5 y4.length cp6), (9, .pointer (some ⟨b1, 1, none⟩))]) (by kernel_rfl) ?_
  have hI := hI.mono (pick3 _ _ _ _)
  refine OpsT.cons (Does.storeLit (T := 23) (b := b1) (o := 1) (v := .slice A5 y4.length cp6) (l := (([.slice A_a0_Map a0_Map.length c_a0_Map, .slice A_a0_Gone a0_Gone.length c_a0_Gone] : List Value))) (vs := ([.slice A5 y4.length cp6] : List Value)) (L' := (([.slice A_a0_Map a0_Map.length c_a0_Map, .slice A5 y4.length cp6] : List Value))) (by kernel_rfl) ty23 hI (by kernel_rfl) (by kernel_rfl) (by kernel_rfl) (by kernel_rfl) (by kernel_rfl) ?_)
  intro w hI
  refine OpsT.done ?_
  refine Qn.then ?_
  refine CodT.seq ?_
  refine CodT.regionL [0, 1] (by kernel_rfl) ?_
  refine OpsT.cons (Does.yi (Yl.load (d := 10) (T := 25) (v := .agg ((([.slice A_a0_Map a0_Map.length c_a0_Map, .slice A5 y4.length cp6] : List Value))).toArray) (by kernel_rfl) (ldBN ty25 (l := (([.slice A_a0_Map a0_Map.length c_a0_Map, .slice A5 y4.length cp6] : List Value))) (o := 0) (cs := (([.slice A_a0_Map a0_Map.length c_a0_Map, .slice A5 y4.length cp6] : List Value))) (ent_refl _) (by kernel_rfl) (whole _ _ (by kernel_rfl)))) hI ?_)
  have hI := hI.mono (pick3 _ _ _ _)
  refine OpsT.cons (Does.storeLit (T := 25) (b := b2) (o := 0) (v := .agg ((([.slice A_a0_Map a0_Map.length c_a0_Map, .slice A5 y4.length cp6] : List Value))).toArray) (l := (([.slice none 0 0, .slice none 0 0] : List Value))) (vs := (([.slice A_a0_Map a0_Map.length c_a0_Map, .slice A5 y4.length cp6] : List Value))) (L' := (([.slice A_a0_Map a0_Map.length c_a0_Map, .slice A5 y4.length cp6] : List Value))) (by kernel_rfl) ty25 hI (by kernel_rfl) (by kernel_rfl) (by kernel_rfl) (by kernel_rfl) (by kernel_rfl) ?_)
  intro w hI
  refine OpsT.done ?_
  refine Qn.then ?_
  refine CodT.ret ?_
  have hL7 := (ldBN ty25 (l := (([.slice A_a0_Map a0_Map.length c_a0_Map, .slice A5 y4.length cp6] : List Value))) (o := 0) (cs := (([.slice A_a0_Map a0_Map.length c_a0_Map, .slice A5 y4.length cp6] : List Value))) (ent_refl _) (by kernel_rfl) (whole _ _ (by kernel_rfl))) w hI
  have hI := hI.drop
  have hI := hI.drop
  have e := someS h0
  subst e
  refine Qn.keep [4] (S' := [(4, .pointer (some ⟨b2, 0, none⟩))]) (by kernel_rfl) ?_
  exact post_ret (v := .agg ((([.slice A_a0_Map a0_Map.length c_a0_Map, .slice A5 y4.length cp6] : List Value))).toArray) (fun a ha => RunRes.run (vs := [.agg ((([.slice A_a0_Map a0_Map.length c_a0_Map, .slice A5 y4.length cp6] : List Value))).toArray]) (.cell (t := 4) (T := 25) (ad := ⟨b2, 0, none⟩) (by kernel_rfl) hL7 .nil) ha (by kernel_rfl)) ⟨A_a0_Map, c_a0_Map, A5, cp6, Z, Hp.le_refl _, rfl, hr_a0_Map, hI⟩
set_option maxRecDepth 100000 in
set_option maxHeartbeats 4000000 in
/-- slices.Equal[[]cenotaph/root.Entry,cenotaph/root.Entry] -/
theorem c45 (w0 w : World) (Z : Hp) (A : HP) (hI : Inv w0 Z w A) (A_a0 : Option Addr) (c_a0 : Nat) (a0 : (List RootEntry)) (hr_a0 : RdS Z c_RootEntry 4 A_a0 c_a0 a0) (A_a1 : Option Addr) (c_a1 : Nat) (a1 : (List RootEntry)) (hr_a1 : RdS Z c_RootEntry 4 A_a1 c_a1 a1) (r : Bool) (h0 : slices_Equal_rootEntry a0 a1 = some r) :
    Calls prog 45 #[.slice A_a0 a0.length c_a0, .slice A_a1 a1.length c_a1] w (fun e w' => e = .returned (.bool r) ∧ Inv w0 Z w' A) := by
  have e4 := calls_intro (R := (fun e w' => e = .returned (.bool r) ∧ Inv w0 Z w' A)) (w := w) (args := [.slice A_a0 a0.length c_a0, .slice A_a1 a1.length c_a1]) (fn := Go.Proofs.Try.f45) 26 Go.Proofs.Try.func45 (by rfl) Go.Proofs.Try.ntmps45 (by kernel_rfl)
  refine e4 ?_
  clear e4
  unfold slices_Equal_rootEntry at h0
  refine CodT.seq ?_
  refine CodT.regionL [0] (by kernel_rfl) ?_
  refine OpsT.pures (r := []) [0] [0, 1] (S' := [(0, .slice A_a0 a0.length c_a0), (1, .slice A_a1 a1.length c_a1)]) (by kernel_rfl) ?_
  refine OpsT.done ?_
  refine Qn.then ?_
  refine CodT.seq ?_
  refine CodT.seq ?_
  refine CodT.regionL [0, 1, 2, 3, 4] (by kernel_rfl) ?_
  refine OpsT.pures (r := []) [0, 1, 2, 3, 4] [0, 1, 10] (S' := [(0, .slice A_a0 a0.length c_a0), (1, .slice A_a1 a1.length c_a1), (10, .bool ((a0.length : Int) != (a1.length : Int)))]) (by kernel_rfl) ?_
  refine OpsT.done ?_
  refine Qn.then ?_
  by_cases hb1 : ((a0.length : Int) != (a1.length : Int)) = true
  · rw [if_pos hb1] at h0
    refine CodT.yes' (b := (a0.length : Int) != (a1.length : Int)) (by kernel_rfl) hb1 ?_
    refine CodT.seq ?_
    refine CodT.regionL [0] (by kernel_rfl) ?_
    refine OpsT.pures (r := []) [0] [4] (S' := [(4, .bool false)]) (by kernel_rfl) ?_
    refine OpsT.done ?_
    refine Qn.then ?_
    refine CodT.ret ?_
    refine Qn.ret_then ?_
    have e := someS h0
    subst e
    refine Qn.keep [4] (S' := [(4, .bool false)]) (by kernel_rfl) ?_
    exact post_ret (v := .bool false) (fun a ha => RunRes.run (vs := [.bool false]) (.tmp (t := 4) (by kernel_rfl) .nil) ha (by kernel_rfl)) ⟨rfl, hI⟩
  · rw [if_neg hb1] at h0
    refine CodT.no' (b := (a0.length : Int) != (a1.length : Int)) (by kernel_rfl) (by simpa using hb1) ?_
    refine CodT.skip ?_
    refine Qn.then ?_
    refine CodT.seq ?_
    refine CodT.seq ?_
    refine CodT.regionL [0, 1, 2] (by kernel_rfl) ?_
    refine OpsT.pures (r := []) [0, 1, 2] [0, 1, 12, 13] (S' := [(0, .slice A_a0 a0.length c_a0), (1, .slice A_a1 a1.length c_a1), (12, .int .i64 (a0.length : Int)), (13, .int .i64 0)]) (by kernel_rfl) ?_
    refine OpsT.done ?_
    refine Qn.then ?_
    obtain ⟨r1, h1, h0⟩ := bindS h0
    refine CodT.meet1 (fun a w => .inr () = r1 ∧ Fr 26 [] a ∧ Inv w0 Z w A) ?_ ?_
    ·
      refine CodT.block ?_
      refine (fun a ha => wp_loopN (fun k a w => ∃ (x2 : Int), slices_Equal_rootEntry.l0 a0 a1 k x2 = some r1 ∧ Fr 26 [(0, .slice A_a0 a0.length c_a0), (1, .slice A_a1 a1.length c_a1), (12, .int .i64 (a0.length : Int)), (13, .int .i64 x2)] a ∧ Inv w0 Z w A) ?_ FU a w ⟨0, h1, ha.keep [0, 1, 12, 13] (by kernel_rfl), hI⟩)
      clear h1 hI
      rintro k a w ⟨x2, h1, ha, hI⟩
      rcases k with _ | k
      · cases h1
      simp only [slices_Equal_rootEntry.l0] at h1
      refine CodT.of ?_ ha
      refine CodT.seq ?_
      refine CodT.regionL [0] (by kernel_rfl) ?_
      refine OpsT.pures (r := []) [0] [0, 1, 12, 13, 14] (S' := [(0, .slice A_a0 a0.length c_a0), (1, .slice A_a1 a1.length c_a1), (12, .int .i64 (a0.length : Int)), (13, .int .i64 x2), (14, .bool (decide (x2 < (a0.length : Int))))]) (by kernel_rfl) ?_
      refine OpsT.done ?_
      refine Qn.then ?_
      refine CodT.seq ?_
      by_cases hb3 : (decide (x2 < (a0.length : Int))) = true
      · rw [if_pos hb3] at h1
        refine CodT.yes' (b := decide (x2 < (a0.length : Int))) (by kernel_rfl) hb3 ?_
        refine CodT.skip ?_
        refine Qn.then ?_
        refine CodT.seq ?_
        refine CodT.block ?_
        refine CodT.seq ?_
        refine CodT.regionL [0, 1] (by kernel_rfl) ?_
        refine OpsT.pures (r := []) [0, 1] [0, 1, 5, 12, 13] (S' := [(0, .slice A_a0 a0.length c_a0), (1, .slice A_a1 a1.length c_a1), (5, .int .i64 x2), (12, .int .i64 (a0.length : Int)), (13, .int .i64 x2)]) (by kernel_rfl) ?_
        refine OpsT.done ?_
        refine Qn.then ?_
        refine CodT.seq ?_
        refine CodT.drawI (n := 9) [] (by kernel_rfl) (by kernel_rfl) hI ?_
        intro w hI
        refine GmT.p' 0 16 (.slice A_a0 a0.length c_a0) (by kernel_rfl) (by kernel_rfl) ?_
        refine GmT.p' 1 17 (.int .i64 x2) (by kernel_rfl) (by kernel_rfl) ?_
        refine GmT.p' 4 20 (.slice A_a1 a1.length c_a1) (by kernel_rfl) (by kernel_rfl) ?_
        refine GmT.p' 5 21 (.int .i64 x2) (by kernel_rfl) (by kernel_rfl) ?_
        obtain ⟨hg4, h1⟩ := guardS h1
        obtain ⟨g5, o9, hA6, hr7, hl8⟩ := RdS.get hr_a0 hg4.1 hg4.2
        refine GmT.r (i := 2) 2 (by kernel_rfl) (by kernel_rfl) (Yl.indexSlice (d := 18) (T := 22) (cc := c_a0) (k := .i64) (j := x2) (g := g5) (o := o9) (by kernel_rfl) Go.Proofs.Try.underlying22 ty47 hA6 hg4.1 hg4.2) hI ?_
        refine GmT.r (i := 3) 2 (by kernel_rfl) (by kernel_rfl) (Yl.load (d := 19) (T := 47) (v := .agg (c_RootEntry (gt a0 x2)).toArray) (by kernel_rfl) (ldRN ty47 (cs := c_RootEntry (gt a0 x2)) 0 (fun w hC => hr7 w0 w _ hC) hl8 (whole _ _ hl8))) hI ?_
        obtain ⟨hg10, h1⟩ := guardS h1
        obtain ⟨g11, o15, hA12, hr13, hl14⟩ := RdS.get hr_a1 hg10.1 hg10.2
        refine GmT.r (i := 6) 2 (by kernel_rfl) (by kernel_rfl) (Yl.indexSlice (d := 22) (T := 22) (cc := c_a1) (k := .i64) (j := x2) (g := g11) (o := o15) (by kernel_rfl) Go.Proofs.Try.underlying22 ty47 hA12 hg10.1 hg10.2) hI ?_
        refine GmT.r (i := 7) 2 (by kernel_rfl) (by kernel_rfl) (Yl.load (d := 23) (T := 47) (v := .agg (c_RootEntry (gt a1 x2)).toArray) (by kernel_rfl) (ldRN ty47 (cs := c_RootEntry (gt a1 x2)) 0 (fun w hC => hr13 w0 w _ hC) hl14 (whole _ _ hl14))) hI ?_
        refine GmT.r (i := 8) 2 (by kernel_rfl) (by kernel_rfl) (Yl.neqS (d := 24) (T := 47) (xs := ([.int .i64 ((gt a0 x2).Logic), .int .i64 ((gt a0 x2).Owner), .int .i64 ((gt a0 x2).Block), .int .i64 ((gt a0 x2).At)] : List Value)) (ys := ([.int .i64 ((gt a1 x2).Logic), .int .i64 ((gt a1 x2).Owner), .int .i64 ((gt a1 x2).Block), .int .i64 ((gt a1 x2).At)] : List Value)) (r := eq_RootEntry (gt a0 x2) (gt a1 x2)) (by kernel_rfl) Go.Proofs.Try.underlying47 (by kernel_rfl) (by kernel_rfl) (.cons rfl (part1 (v := .int .i64 ((gt a0 x2).Logic)) ty3 (by kernel_rfl)) (part1 (v := .int .i64 ((gt a1 x2).Logic)) ty3 (by kernel_rfl)) (eqI Go.Proofs.Try.underlying3) (.cons rfl (part1 (v := .int .i64 ((gt a0 x2).Owner)) ty3 (by kernel_rfl)) (part1 (v := .int .i64 ((gt a1 x2).Owner)) ty3 (by kernel_rfl)) (eqI Go.Proofs.Try.underlying3) (.cons rfl (part1 (v := .int .i64 ((gt a0 x2).Block)) ty3 (by kernel_rfl)) (part1 (v := .int .i64 ((gt a1 x2).Block)) ty3 (by kernel_rfl)) (eqI Go.Proofs.Try.underlying3) (.cons rfl (part1 (v := .int .i64 ((gt a0 x2).At)) ty3 (by kernel_rfl)) (part1 (v := .int .i64 ((gt a1 x2).At)) ty3 (by kernel_rfl)) (eqI Go.Proofs.Try.underlying3) .nil))))) hI ?_
        refine GmT.done (by kernel_rfl) ?_
        refine Qn.then ?_
        by_cases hb16 : (!(eq_RootEntry (gt a0 x2) (gt a1 x2))) = true
        · rw [if_pos hb16] at h1
          refine CodT.yes' (b := !(eq_RootEntry (gt a0 x2) (gt a1 x2))) (by kernel_rfl) hb16 ?_
          refine CodT.seq ?_
          refine CodT.regionL [0] (by kernel_rfl) ?_
          refine OpsT.pures (r := []) [0] [4] (S' := [(4, .bool false)]) (by kernel_rfl) ?_
          refine OpsT.done ?_
          refine Qn.then ?_
          refine CodT.ret ?_
          refine Qn.block_ret ?_
          refine Qn.ret_then ?_
          refine Qn.ret_then ?_
          refine Qn.block_ret ?_
          refine Qn.ret_then ?_
          refine Qn.ret_then ?_
          have e := someS h1
          subst e
          try dsimp only at h0
          have e := someS h0
          subst e
          refine Qn.keep [4] (S' := [(4, .bool false)]) (by kernel_rfl) ?_
          exact post_ret (v := .bool false) (fun a ha => RunRes.run (vs := [.bool false]) (.tmp (t := 4) (by kernel_rfl) .nil) ha (by kernel_rfl)) ⟨rfl, hI⟩
        · rw [if_neg hb16] at h1
          refine CodT.no' (b := !(eq_RootEntry (gt a0 x2) (gt a1 x2))) (by kernel_rfl) (by simpa using hb16) ?_
          refine CodT.skip ?_
          refine Qn.block_normal ?_
          refine Qn.then ?_
          refine CodT.regionL [0, 1] (by kernel_rfl) ?_
          refine OpsT.pures (r := []) [0, 1] [0, 1, 12, 13] (S' := [(0, .slice A_a0 a0.length c_a0), (1, .slice A_a1 a1.length c_a1), (12, .int .i64 (a0.length : Int)), (13, .int .i64 (wi64 (x2 + 1)))]) (by kernel_rfl) ?_
          refine OpsT.done ?_
          exact Qn.thenJ fun a ha => ⟨k, Nat.lt_succ_self k, wi64 (x2 + 1), h1, ha.keep [0, 1, 12, 13] (by kernel_rfl), hI⟩
      · rw [if_neg hb3] at h1
        refine CodT.no' (b := decide (x2 < (a0.length : Int))) (by kernel_rfl) (by simpa using hb3) ?_
        refine CodT.exit ?_
        refine Qn.exit_then ?_
        refine Qn.exit_then ?_
        refine Qn.block ?_
        have e := someS h1
        subst e
        exact Qn.thenJ fun a ha => ⟨rfl, ha.keep [] (by kernel_rfl), hI⟩
    ·
      rintro a w ⟨rfl, ha, hI⟩
      try dsimp only at h0
      refine Qn.of ?_ ha
      refine Qn.then ?_
      refine CodT.seq ?_
      refine CodT.regionL [0] (by kernel_rfl) ?_
      refine OpsT.pures (r := []) [0] [4] (S' := [(4, .bool true)]) (by kernel_rfl) ?_
      refine OpsT.done ?_
      refine Qn.then ?_
      refine CodT.ret ?_
      have e := someS h0
      subst e
      refine Qn.keep [4] (S' := [(4, .bool true)]) (by kernel_rfl) ?_
      exact post_ret (v := .bool true) (fun a ha => RunRes.run (vs := [.bool true]) (.tmp (t := 4) (by kernel_rfl) .nil) ha (by kernel_rfl)) ⟨rfl, hI⟩
set_option maxRecDepth 100000 in
set_option maxHeartbeats 4000000 in
/-- slices.Equal[[]int,int] -/
theorem c46 (w0 w : World) (Z : Hp) (A : HP) (hI : Inv w0 Z w A) (A_a0 : Option Addr) (c_a0 : Nat) (a0 : (List Int)) (hr_a0 : RdS Z (cI .i64) 1 A_a0 c_a0 a0) (A_a1 : Option Addr) (c_a1 : Nat) (a1 : (List Int)) (hr_a1 : RdS Z (cI .i64) 1 A_a1 c_a1 a1) (r : Bool) (h0 : slices_Equal_int a0 a1 = some r) :
    Calls prog 46 #[.slice A_a0 a0.length c_a0, .slice A_a1 a1.length c_a1] w (fun e w' => e = .returned (.bool r) ∧ Inv w0 Z w' A) := by
  have e4 := calls_intro (R := (fun e w' => e = .returned (.bool r) ∧ Inv w0 Z w' A)) (w := w) (args := [.slice A_a0 a0.length c_a0, .slice A_a1 a1.length c_a1]) (fn := Go.Proofs.Try.f46) 26 Go.Proofs.Try.func46 (by rfl) Go.Proofs.Try.ntmps46 (by kernel_rfl)
  refine e4 ?_
  clear e4
  unfold slices_Equal_int at h0
  refine CodT.seq ?_
  refine CodT.regionL [0] (by kernel_rfl) ?_
  refine OpsT.pures (r := []) [0] [0, 1] (S' := [(0, .slice A_a0 a0.length c_a0), (1, .slice A_a1 a1.length c_a1)]) (by kernel_rfl) ?_
  refine OpsT.done ?_
  refine Qn.then ?_
  refine CodT.seq ?_
  refine CodT.seq ?_
  refine CodT.regionL [0, 1, 2, 3, 4] (by kernel_rfl) ?_
  refine OpsT.pures (r := []) [0, 1, 2, 3, 4] [0, 1, 10] (S' := [(0, .slice A_a0 a0.length c_a0), (1, .slice A_a1 a1.length c_a1), (10, .bool ((a0.length : Int) != (a1.length : Int)))]) (by kernel_rfl) ?_
  refine OpsT.done ?_
  refine Qn.then ?_
  by_cases hb1 : ((a0.length : Int) != (a1.length : Int)) = true
  · rw [if_pos hb1] at h0
    refine CodT.yes' (b := (a0.length : Int) != (a1.length : Int)) (by kernel_rfl) hb1 ?_
    refine CodT.seq ?_
    refine CodT.regionL [0] (by kernel_rfl) ?_
    refine OpsT.pures (r := []) [0] [4] (S' := [(4, .bool false)]) (by kernel_rfl) ?_
    refine OpsT.done ?_
    refine Qn.then ?_
    refine CodT.ret ?_
    refine Qn.ret_then ?_
    have e := someS h0
    subst e
    refine Qn.keep [4] (S' := [(4, .bool false)]) (by kernel_rfl) ?_
    exact post_ret (v := .bool false) (fun a ha => RunRes.run (vs := [.bool false]) (.tmp (t := 4) (by kernel_rfl) .nil) ha (by kernel_rfl)) ⟨rfl, hI⟩
  · rw [if_neg hb1] at h0
    refine CodT.no' (b := (a0.length : Int) != (a1.length : Int)) (by kernel_rfl) (by simpa using hb1) ?_
    refine CodT.skip ?_
    refine Qn.then ?_
    refine CodT.seq ?_
    refine CodT.seq ?_
    refine CodT.regionL [0, 1, 2] (by kernel_rfl) ?_
    refine OpsT.pures (r := []) [0, 1, 2] [0, 1, 12, 13] (S' := [(0, .slice A_a0 a0.length c_a0), (1, .slice A_a1 a1.length c_a1), (12, .int .i64 (a0.length : Int)), (13, .int .i64 0)]) (by kernel_rfl) ?_
    refine OpsT.done ?_
    refine Qn.then ?_
    obtain ⟨r1, h1, h0⟩ := bindS h0
    refine CodT.meet1 (fun a w => .inr () = r1 ∧ Fr 26 [] a ∧ Inv w0 Z w A) ?_ ?_
    ·
      refine CodT.block ?_
      refine (fun a ha => wp_loopN (fun k a w => ∃ (x2 : Int), slices_Equal_int.l0 a0 a1 k x2 = some r1 ∧ Fr 26 [(0, .slice A_a0 a0.length c_a0), (1, .slice A_a1 a1.length c_a1), (12, .int .i64 (a0.length : Int)), (13, .int .i64 x2)] a ∧ Inv w0 Z w A) ?_ FU a w ⟨0, h1, ha.keep [0, 1, 12, 13] (by kernel_rfl), hI⟩)
      clear h1 hI
      rintro k a w ⟨x2, h1, ha, hI⟩
      rcases k with _ | k
      · cases h1
      simp only [slices_Equal_int.l0] at h1
      refine CodT.of ?_ ha
      refine CodT.seq ?_
      refine CodT.regionL [0] (by kernel_rfl) ?_
      refine OpsT.pures (r := []) [0] [0, 1, 12, 13, 14] (S' := [(0, .slice A_a0 a0.length c_a0), (1, .slice A_a1 a1.length c_a1), (12, .int .i64 (a0.length : Int)), (13, .int .i64 x2), (14, .bool (decide (x2 < (a0.length : Int))))]) (by kernel_rfl) ?_
      refine OpsT.done ?_
      refine Qn.then ?_
      refine CodT.seq ?_
      by_cases hb3 : (decide (x2 < (a0.length : Int))) = true
      · rw [if_pos hb3] at h1
        refine CodT.yes' (b := decide (x2 < (a0.length : Int))) (by kernel_rfl) hb3 ?_
        refine CodT.skip ?_
        refine Qn.then ?_
        refine CodT.seq ?_
        refine CodT.block ?_
        refine CodT.seq ?_
        refine CodT.regionL [0, 1] (by kernel_rfl) ?_
        refine OpsT.pures (r := []) [0, 1] [0, 1, 5, 12, 13] (S' := [(0, .slice A_a0 a0.length c_a0), (1, .slice A_a1 a1.length c_a1), (5, .int .i64 x2), (12, .int .i64 (a0.length : Int)), (13, .int .i64 x2)]) (by kernel_rfl) ?_
        refine OpsT.done ?_
        refine Qn.then ?_
        refine CodT.seq ?_
        refine CodT.drawI (n := 9) [] (by kernel_rfl) (by kernel_rfl) hI ?_
        intro w hI
        refine GmT.p' 0 16 (.slice A_a0 a0.length c_a0) (by kernel_rfl) (by kernel_rfl) ?_
        refine GmT.p' 1 17 (.int .i64 x2) (by kernel_rfl) (by kernel_rfl) ?_
        refine GmT.p' 4 20 (.slice A_a1 a1.length c_a1) (by kernel_rfl) (by kernel_rfl) ?_
        refine GmT.p' 5 21 (.int .i64 x2) (by kernel_rfl) (by kernel_rfl) ?_
        obtain ⟨hg4, h1⟩ := guardS h1
        obtain ⟨g5, o9, hA6, hr7, hl8⟩ := RdS.get hr_a0 hg4.1 hg4.2
        refine GmT.r (i := 2) 2 (by kernel_rfl) (by kernel_rfl) (Yl.indexSlice (d := 18) (T := 23) (cc := c_a0) (k := .i64) (j := x2) (g := g5) (o := o9) (by kernel_rfl) Go.Proofs.Try.underlying23 ty3 hA6 hg4.1 hg4.2) hI ?_
        refine GmT.r (i := 3) 2 (by kernel_rfl) (by kernel_rfl) (Yl.load (d := 19) (T := 3) (v := .int .i64 (gt a0 x2)) (by kernel_rfl) (ldR ty3 (v := .int .i64 (gt a0 x2)) 0 (fun w hC => hr7 w0 w _ hC) (by kernel_rfl))) hI ?_
        obtain ⟨hg10, h1⟩ := guardS h1
        obtain ⟨g11, o15, hA12, hr13, hl14⟩ := RdS.get hr_a1 hg10.1 hg10.2
        refine GmT.r (i := 6) 2 (by kernel_rfl) (by kernel_rfl) (Yl.indexSlice (d := 22) (T := 23) (cc := c_a1) (k := .i64) (j := x2) (g := g11) (o := o15) (by kernel_rfl) Go.Proofs.Try.underlying23 ty3 hA12 hg10.1 hg10.2) hI ?_
        refine GmT.r (i := 7) 2 (by kernel_rfl) (by kernel_rfl) (Yl.load (d := 23) (T := 3) (v := .int .i64 (gt a1 x2)) (by kernel_rfl) (ldR ty3 (v := .int .i64 (gt a1 x2)) 0 (fun w hC => hr13 w0 w _ hC) (by kernel_rfl))) hI ?_
        refine GmT.p' 8 24 (.bool ((gt a0 x2) != (gt a1 x2))) (by kernel_rfl) (by kernel_rfl) ?_
        refine GmT.done (by kernel_rfl) ?_
        refine Qn.then ?_
        by_cases hb16 : ((gt a0 x2) != (gt a1 x2)) = true
        · rw [if_pos hb16] at h1
          refine CodT.yes' (b := (gt a0 x2) != (gt a1 x2)) (by kernel_rfl) hb16 ?_
          refine CodT.seq ?_
          refine CodT.regionL [0] (by kernel_rfl) ?_
          refine OpsT.pures (r := []) [0] [4] (S' := [(4, .bool false)]) (by kernel_rfl) ?_
          refine OpsT.done ?_
          refine Qn.then ?_
          refine CodT.ret ?_
          refine Qn.block_ret ?_
          refine Qn.ret_then ?_
          refine Qn.ret_then ?_
          refine Qn.block_ret ?_
          refine Qn.ret_then ?_
          refine Qn.ret_then ?_
          have e := someS h1
          subst e
          try dsimp only at h0
          have e := someS h0
          subst e
          refine Qn.keep [4] (S' := [(4, .bool false)]) (by kernel_rfl) ?_
          exact post_ret (v := .bool false) (fun a ha => RunRes.run (vs := [.bool false]) (.tmp (t := 4) (by kernel_rfl) .nil) ha (by kernel_rfl)) ⟨rfl, hI⟩
        · rw [if_neg hb16] at h1
          refine CodT.no' (b := (gt a0 x2) != (gt a1 x2)) (by kernel_rfl) (by simpa using hb16) ?_
          refine CodT.skip ?_
          refine Qn.block_normal ?_
          refine Qn.then ?_
          refine CodT.regionL [0, 1] (by kernel_rfl) ?_
          refine OpsT.pures (r := []) [0, 1] [0, 1, 12, 13] (S' := [(0, .slice A_a0 a0.length c_a0), (1, .slice A_a1 a1.length c_a1), (12, .int .i64 (a0.length : Int)), (13, .int .i64 (wi64 (x2 + 1)))]) (by kernel_rfl) ?_
          refine OpsT.done ?_
          exact Qn.thenJ fun a ha => ⟨k, Nat.lt_succ_self k, wi64 (x2 + 1), h1, ha.keep [0, 1, 12, 13] (by kernel_rfl), hI⟩
      · rw [if_neg hb3] at h1
        refine CodT.no' (b := decide (x2 < (a0.length : Int))) (by kernel_rfl) (by simpa using hb3) ?_
        refine CodT.exit ?_
        refine Qn.exit_then ?_
        refine Qn.exit_then ?_
        refine Qn.block ?_
        have e := someS h1
        subst e
        exact Qn.thenJ fun a ha => ⟨rfl, ha.keep [] (by kernel_rfl), hI⟩
    ·
      rintro a w ⟨rfl, ha, hI⟩
      try dsimp only at h0
      refine Qn.of ?_ ha
      refine Qn.then ?_
      refine CodT.seq ?_
      refine CodT.regionL [0] (by kernel_rfl) ?_
      refine OpsT.pures (r := []) [0] [4] (S' := [(4, .bool true)]) (by kernel_rfl) ?_
      refine OpsT.done ?_
      refine Qn.then ?_
      refine CodT.ret ?_
      have e := someS h0
      subst e
      refine Qn.keep [4] (S' := [(4, .bool true)]) (by kernel_rfl) ?_
      exact post_ret (v := .bool true) (fun a ha => RunRes.run (vs := [.bool true]) (.tmp (t := 4) (by kernel_rfl) .nil) ha (by kernel_rfl)) ⟨rfl, hI⟩
set_option maxRecDepth 100000 in
set_option maxHeartbeats 4000000 in
/-- cenotaph/root.Same -/
theorem c15 (w0 w : World) (Z : Hp) (A : HP) (hI : Inv w0 Z w A) (A_a0_Map : Option Addr) (c_a0_Map : Nat) (a0_Map : (List RootEntry)) (hr_a0_Map : RdS Z c_RootEntry 4 A_a0_Map c_a0_Map a0_Map) (A_a0_Gone : Option Addr) (c_a0_Gone : Nat) (a0_Gone : (List Int)) (hr_a0_Gone : RdS Z (cI .i64) 1 A_a0_Gone c_a0_Gone a0_Gone) (A_a1_Map : Option Addr) (c_a1_Map : Nat) (a1_Map : (List RootEntry)) (hr_a1_Map : RdS Z c_RootEntry 4 A_a1_Map c_a1_Map a1_Map) (A_a1_Gone : Option Addr) (c_a1_Gone : Nat) (a1_Gone : (List Int)) (hr_a1_Gone : RdS Z (cI .i64) 1 A_a1_Gone c_a1_Gone a1_Gone) (r : Bool) (h0 : root_Same a0_Map a0_Gone a1_Map a1_Gone = some r) :
    Calls prog 15 #[.agg ((([.slice A_a0_Map a0_Map.length c_a0_Map, .slice A_a0_Gone a0_Gone.length c_a0_Gone] : List Value))).toArray, .agg ((([.slice A_a1_Map a1_Map.length c_a1_Map, .slice A_a1_Gone a1_Gone.length c_a1_Gone] : List Value))).toArray] w (fun e w' => e = .returned (.bool r) ∧ Inv w0 Z w' A) := by
  have e4 := calls_intro (R := (fun e w' => e = .returned (.bool r) ∧ Inv w0 Z w' A)) (w := w) (args := [.agg ((([.slice A_a0_Map a0_Map.length c_a0_Map, .slice A_a0_Gone a0_Gone.length c_a0_Gone] : List Value))).toArray, .agg ((([.slice A_a1_Map a1_Map.length c_a1_Map, .slice A_a1_Gone a1_Gone.length c_a1_Gone] : List Value))).toArray]) (fn := Go.Proofs.Try.f15) 17 Go.Proofs.Try.func15 (by rfl) Go.Proofs.Try.ntmps15 (by kernel_rfl)
  refine e4 ?_
  clear e4
  unfold root_Same at h0
  refine CodT.seq ?_
  refine CodT.regionL [0, 1, 2] (by kernel_rfl) ?_
  refine OpsT.cons (Does.boxL (d := 2) (T := 25) (v := .agg ((([.slice A_a0_Map a0_Map.length c_a0_Map, .slice A_a0_Gone a0_Gone.length c_a0_Gone] : List Value))).toArray) ((([.slice A_a0_Map a0_Map.length c_a0_Map, .slice A_a0_Gone a0_Gone.length c_a0_Gone] : List Value))) (by kernel_rfl) hI (by kernel_rfl) ?_)
  intro b1 w hI
  refine OpsT.cons (Does.boxL (d := 3) (T := 25) (v := .agg ((([.slice A_a1_Map a1_Map.length c_a1_Map, .slice A_a1_Gone a1_Gone.length c_a1_Gone] : List Value))).toArray) ((([.slice A_a1_Map a1_Map.length c_a1_Map, .slice A_a1_Gone a1_Gone.length c_a1_Gone] : List Value))) (by kernel_rfl) hI (by kernel_rfl) ?_)
  intro b2 w hI
  refine OpsT.pures (r := []) [2] [2, 3] (S' := [(2, .pointer (some ⟨b1, 0, none⟩)), (3, .pointer (some ⟨b2, 0, none⟩))]) (by kernel_rfl) ?_
  refine OpsT.done ?_
  refine Qn.then ?_
  obtain ⟨r1, h1, h0⟩ := bindS h0
  refine CodT.meet (fun a w => ∃ (x3 : Bool), x3 = r1 ∧ Fr 17 [(4, .bool x3)] a ∧ Inv w0 Z w A) ?_ ?_
  ·
    refine CodT.regionL [0, 1, 2, 3, 4, 5, 6, 7, 8, 9, 10, 11, 12] (by kernel_rfl) ?_
    refine OpsT.pures (r := [1, 2, 3, 4, 5, 6, 7, 8, 9, 10, 11, 12]) [0] [2, 3, 5] (S' := [(2, .pointer (some ⟨b1, 0, none⟩)), (3, .pointer (some ⟨b2, 0, none⟩)), (5, .pointer (some ⟨b1, 0, none⟩))]) (by kernel_rfl) ?_
    refine OpsT.cons (Does.yi (Yl.load (d := 6) (T := 22) (v := .slice A_a0_Map a0_Map.length c_a0_Map) (by kernel_rfl) (ldB ty22 (l := (([.slice A_a0_Map a0_Map.length c_a0_Map, .slice A_a0_Gone a0_Gone.length c_a0_Gone] : List Value))) (o := 0) (v := .slice A_a0_Map a0_Map.length c_a0_Map) (pick2 _ _ _) (by kernel_rfl))) hI ?_)
    refine OpsT.pures (r := [3, 4, 5, 6, 7, 8, 9, 10, 11, 12]) [2] [2, 3, 6, 7] (S' := [(2, .pointer (some ⟨b1, 0, none⟩)), (3, .pointer (some ⟨b2, 0, none⟩)), (6, .slice A_a0_Map a0_Map.length c_a0_Map), (7, .pointer (some ⟨b2, 0, none⟩))]) (by kernel_rfl) ?_
    refine OpsT.cons (Does.yi (Yl.load (d := 8) (T := 22) (v := .slice A_a1_Map a1_Map.length c_a1_Map) (by kernel_rfl) (ldB ty22 (l := (([.slice A_a1_Map a1_Map.length c_a1_Map, .slice A_a1_Gone a1_Gone.length c_a1_Gone] : List Value))) (o := 0) (v := .slice A_a1_Map a1_Map.length c_a1_Map) (ent_refl _) (by kernel_rfl))) hI ?_)
    obtain ⟨y5, hc4, h1⟩ := bindS h1
    try dsimp only at h1
    refine OpsT.cons (Does.call (d := some 9) (n := 45) (vs := [.slice A_a0_Map a0_Map.length c_a0_Map, .slice A_a1_Map a1_Map.length c_a1_Map]) (by kernel_rfl) en45 (c45 w0 w _ _ hI A_a0_Map c_a0_Map a0_Map hr_a0_Map A_a1_Map c_a1_Map a1_Map hr_a1_Map _ hc4) ?_)
    rintro e w ⟨rfl, hI⟩
    refine ⟨_, rfl, ?_⟩
    refine OpsT.pures (r := [6, 7, 8, 9, 10, 11, 12]) [5] [2, 3, 10] (S' := [(2, .pointer (some ⟨b1, 0, none⟩)), (3, .pointer (some ⟨b2, 0, none⟩)), (10, .bool y5)]) (by kernel_rfl) ?_
    by_cases hb6 : y5 = true
    · rw [if_pos hb6] at h1
      refine OpsT.keep [2, 3, 10] (S' := [(2, .pointer (some ⟨b1, 0, none⟩)), (3, .pointer (some ⟨b2, 0, none⟩)), (10, .bool true)]) (by simp only [hb6]; kernel_rfl) ?_
      refine OpsT.pures (r := [7, 8, 9, 10, 11, 12]) [6] [3, 10, 11] (S' := [(3, .pointer (some ⟨b2, 0, none⟩)), (10, .bool true), (11, .pointer (some ⟨b1, 1, none⟩))]) (by kernel_rfl) ?_
      refine OpsT.cons (Does.yi (Yl.load (d := 12) (T := 23) (v := .slice A_a0_Gone a0_Gone.length c_a0_Gone) (by kernel_rfl) (ldB ty23 (l := (([.slice A_a0_Map a0_Map.length c_a0_Map, .slice A_a0_Gone a0_Gone.length c_a0_Gone] : List Value))) (o := 1) (v := .slice A_a0_Gone a0_Gone.length c_a0_Gone) (pick2 _ _ _) (by kernel_rfl))) hI ?_)
      refine OpsT.pures (r := [9, 10, 11, 12]) [8] [10, 12, 13] (S' := [(10, .bool true), (12, .slice A_a0_Gone a0_Gone.length c_a0_Gone), (13, .pointer (some ⟨b2, 1, none⟩))]) (by kernel_rfl) ?_
      refine OpsT.cons (Does.yi (Yl.load (d := 14) (T := 23) (v := .slice A_a1_Gone a1_Gone.length c_a1_Gone) (by kernel_rfl) (ldB ty23 (l := (([.slice A_a1_Map a1_Map.length c_a1_Map, .slice A_a1_Gone a1_Gone.length c_a1_Gone] : List Value))) (o := 1) (v := .slice A_a1_Gone a1_Gone.length c_a1_Gone) (ent_refl _) (by kernel_rfl))) hI ?_)
      obtain ⟨y8, hc7, h1⟩ := bindS h1
      try dsimp only at h1
      refine OpsT.cons (Does.call (d := some 15) (n := 46) (vs := [.slice A_a0_Gone a0_Gone.length c_a0_Gone, .slice A_a1_Gone a1_Gone.length c_a1_Gone]) (by kernel_rfl) en46 (c46 w0 w _ _ hI A_a0_Gone c_a0_Gone a0_Gone hr_a0_Gone A_a1_Gone c_a1_Gone a1_Gone hr_a1_Gone _ hc7) ?_)
      rintro e w ⟨rfl, hI⟩
      refine ⟨_, rfl, ?_⟩
      refine OpsT.pures (r := []) [11, 12] [4] (S' := [(4, .bool y8)]) (by kernel_rfl) ?_
      refine OpsT.done ?_
      have hI := hI.drop
      have hI := hI.drop
      have e := someS h1
      subst e
      exact Qn.thenJ fun a ha => ⟨y8, rfl, ha.keep [4] (by kernel_rfl), hI⟩
    · rw [if_neg hb6] at h1
      have hb6 : y5 = false := by simpa using hb6
      refine OpsT.keep [2, 3, 10] (S' := [(2, .pointer (some ⟨b1, 0, none⟩)), (3, .pointer (some ⟨b2, 0, none⟩)), (10, .bool false)]) (by simp only [hb6]; kernel_rfl) ?_
      refine OpsT.pures (r := []) [6, 7, 8, 9, 10, 11, 12] [4] (S' := [(4, .bool false)]) (by kernel_rfl) ?_
      refine OpsT.done ?_
      have hI := hI.drop
      have hI := hI.drop
      have e := someS h1
      subst e
      exact Qn.thenJ fun a ha => ⟨false, rfl, ha.keep [4] (by kernel_rfl), hI⟩
  ·
    rintro a w ⟨x3, rfl, ha, hI⟩
    try dsimp only at h0
    refine CodT.of ?_ ha
    refine CodT.ret ?_
    have e := someS h0
    subst e
    refine Qn.keep [4] (S' := [(4, .bool x3)]) (by kernel_rfl) ?_
    exact post_ret (v := .bool x3) (fun a ha => RunRes.run (vs := [.bool x3]) (.tmp (t := 4) (by kernel_rfl) .nil) ha (by kernel_rfl)) ⟨rfl, hI⟩
set_option maxRecDepth 100000 in
set_option maxHeartbeats 4000000 in
/-- cenotaph/cenotaphlaw15.works -/
theorem c10 (w0 w : World) (Z : Hp) (A : HP) (hI : Inv w0 Z w A)  (r : Bool) (h0 : law15_works = some r) :
    Calls prog 10 #[] w (fun e w' => e = .returned (.bool r) ∧ Inv w0 Z w' A) := by
  have e4 := calls_intro (R := (fun e w' => e = .returned (.bool r) ∧ Inv w0 Z w' A)) (w := w) (args := []) (fn := Go.Proofs.Try.f10) 99 Go.Proofs.Try.func10 (by rfl) Go.Proofs.Try.ntmps10 (by kernel_rfl)
  refine e4 ?_
  clear e4
  unfold law15_works at h0
  refine CodT.seq ?_
  refine CodT.regionL [0] (by kernel_rfl) ?_
  refine OpsT.pures (r := []) [0] [] (S' := []) (by kernel_rfl) ?_
  refine OpsT.done ?_
  refine Qn.then ?_
  refine CodT.seq ?_
  refine CodT.regionL [0, 1, 2] (by kernel_rfl) ?_
  refine OpsT.pures (r := [1, 2]) [0] [9] (S' := [(9, .agg ((([.slice none 0 0, .slice none 0 0] : List Value))).toArray)]) (by kernel_rfl) ?_
  obtain ⟨y2, hc1, h0⟩ := bindS h0
  try dsimp only at h0
  refine OpsT.cons (Does.call (d := some 10) (n := 17) (vs := [.agg ((([.slice none 0 0, .slice none 0 0] : List Value))).toArray, .int .i64 40]) (by kernel_rfl) en17 (c17 w0 w _ _ hI none 0 ([] : List RootEntry) (RdS.nil _ _ _ _ _ (Nat.zero_le _)) none 0 ([] : List Int) (RdS.nil _ _ _ _ _ (Nat.zero_le _)) 40 _ hc1) ?_)
  rintro e w ⟨A3, cp4, rfl, hI⟩
  refine ⟨_, rfl, ?_⟩
  refine OpsT.pures (r := []) [2] [1] (S' := [(1, .slice A3 y2.length cp4)]) (by kernel_rfl) ?_
  refine OpsT.done ?_
  refine Qn.then ?_
  refine CodT.seq ?_
  refine CodT.regionL [0, 1, 2, 3, 4, 5, 6] (by kernel_rfl) ?_
  refine OpsT.pures (r := [2, 3, 4, 5, 6]) [0, 1] [1, 11, 12] (S' := [(1, .slice A3 y2.length cp4), (11, .agg ((([.slice none 0 0, .slice none 0 0] : List Value))).toArray), (12, .agg (c_RootEntry (RootEntry.mk 5 0 1 0)).toArray)]) (by kernel_rfl) ?_
  obtain ⟨⟨y6, y9⟩, hc5, h0⟩ := bindS h0
  try dsimp only at h0
  refine OpsT.cons (Does.call (d := some 13) (n := 21) (vs := [.agg ((([.slice none 0 0, .slice none 0 0] : List Value))).toArray, .agg (c_RootEntry (RootEntry.mk 5 0 1 0)).toArray]) (by kernel_rfl) en21 (c21 w0 w _ _ hI none 0 ([] : List RootEntry) (RdS.nil _ _ _ _ _ (Nat.zero_le _)) none 0 ([] : List Int) (RdS.nil _ _ _ _ _ (Nat.zero_le _)) (RootEntry.mk 5 0 1 0) _ hc5) ?_)
  rintro e w ⟨A7, cp8, A10, cp11, Z13, hle14, rfl, hr12, hI⟩
  refine ⟨_, rfl, ?_⟩
  refine OpsT.pures (r := [4, 5, 6]) [3] [1, 13, 14] (S' := [(1, .slice A3 y2.length cp4), (13, .agg ((([.slice A7 y6.length cp8, .slice A10 y9.length cp11] : List Value))).toArray), (14, .agg (c_RootEntry (RootEntry.mk 3 0 0 0)).toArray)]) (by kernel_rfl) ?_
  obtain ⟨Z15, hle16, hr17, hI⟩ := ownS_freeze hI
  obtain ⟨⟨y19, y22⟩, hc18, h0⟩ := bindS h0
  try dsimp only at h0
  refine OpsT.cons (Does.call (d := some 15) (n := 21) (vs := [.agg ((([.slice A7 y6.length cp8, .slice A10 y9.length cp11] : List Value))).toArray, .agg (c_RootEntry (RootEntry.mk 3 0 0 0)).toArray]) (by kernel_rfl) en21 (c21 w0 w _ _ hI A7 cp8 y6 hr17 A10 cp11 y9 (hr12.mono hle16) (RootEntry.mk 3 0 0 0) _ hc18) ?_)
  rintro e w ⟨A20, cp21, A23, cp24, Z26, hle27, rfl, hr25, hI⟩
  refine ⟨_, rfl, ?_⟩
  refine OpsT.cons (Does.allocL (d := 2) (T := 25) ((([.slice none 0 0, .slice none 0 0] : List Value))) (by kernel_rfl) ty25 hI (by kernel_rfl) ?_)
  intro b28 w hI
  refine OpsT.cons (Does.storeLit (T := 25) (b := b28) (o := 0) (v := .agg ((([.slice A20 y19.length cp21, .slice A23 y22.length cp24] : List Value))).toArray) (l := (([.slice none 0 0, .slice none 0 0] : List Value))) (vs := (([.slice A20 y19.length cp21, .slice A23 y22.length cp24] : List Value))) (L' := (([.slice A20 y19.length cp21, .slice A23 y22.length cp24] : List Value))) (by kernel_rfl) ty25 hI (by kernel_rfl) (by kernel_rfl) (by kernel_rfl) (by kernel_rfl) (by kernel_rfl) ?_)
  intro w hI
  refine OpsT.done ?_
  refine Qn.then ?_
  refine CodT.seq ?_
  obtain ⟨r1, h1, h0⟩ := bindS h0
  refine CodT.meet (fun a w => ∃ (x29 : Bool), x29 = r1 ∧ Fr 99 [(1, .slice A3 y2.length cp4), (2, .pointer (some ⟨b28, 0, none⟩)), (24, .bool x29)] a ∧ Inv w0 Z26 w (star (pt b28 (.cells ((([.slice A20 y19.length cp21, .slice A23 y22.length cp24] : List Value))).toArray 25 (0, 0))) (star (ownS 47 c_RootEntry 4 A20 cp21 y19) (star (ownS 9 cS 1 A3 cp4 y2) A)))) ?_ ?_
  ·
    refine CodT.regionL [0, 1, 2, 3, 4, 5, 6, 7, 8] (by kernel_rfl) ?_
    refine OpsT.pures (r := [4, 5, 6, 7, 8]) [0, 1, 2, 3] [1, 2, 19] (S' := [(1, .slice A3 y2.length cp4), (2, .pointer (some ⟨b28, 0, none⟩)), (19, .bool ((y2.length : Int) != 1))]) (by kernel_rfl) ?_
    by_cases hb30 : ((y2.length : Int) != 1) = true
    · rw [if_pos hb30] at h1
      refine OpsT.keep [1, 2, 19] (S' := [(1, .slice A3 y2.length cp4), (2, .pointer (some ⟨b28, 0, none⟩)), (19, .bool true)]) (by simp only [hb30]; kernel_rfl) ?_
      refine OpsT.pures (r := []) [4, 5, 6, 7, 8] [1, 2, 24] (S' := [(1, .slice A3 y2.length cp4), (2, .pointer (some ⟨b28, 0, none⟩)), (24, .bool true)]) (by kernel_rfl) ?_
      refine OpsT.done ?_
      have e := someS h1
      subst e
      exact Qn.thenJ fun a ha => ⟨true, rfl, ha.keep [1, 2, 24] (by kernel_rfl), hI⟩
    · rw [if_neg hb30] at h1
      have hb30 : ((y2.length : Int) != 1) = false := by simpa using hb30
      refine OpsT.keep [1, 2, 19] (S' := [(1, .slice A3 y2.length cp4), (2, .pointer (some ⟨b28, 0, none⟩)), (19, .bool false)]) (by simp only [hb30]; kernel_rfl) ?_
      refine OpsT.pures (r := [5, 6, 7, 8]) [4] [1, 2, 19, 20] (S' := [(1, .slice A3 y2.length cp4), (2, .pointer (some ⟨b28, 0, none⟩)), (19, .bool false), (20, .pointer (some ⟨b28, 0, none⟩))]) (by kernel_rfl) ?_
      refine OpsT.cons (Does.yi (Yl.load (d := 21) (T := 22) (v := .slice A20 y19.length cp21) (by kernel_rfl) (ldB ty22 (l := (([.slice A20 y19.length cp21, .slice A23 y22.length cp24] : List Value))) (o := 0) (v := .slice A20 y19.length cp21) (ent_refl _) (by kernel_rfl))) hI ?_)
      refine OpsT.pures (r := []) [6, 7, 8] [1, 2, 24] (S' := [(1, .slice A3 y2.length cp4), (2, .pointer (some ⟨b28, 0, none⟩)), (24, .bool ((y19.length : Int) != 2))]) (by kernel_rfl) ?_
      refine OpsT.done ?_
      have e := someS h1
      subst e
      exact Qn.thenJ fun a ha => ⟨(y19.length : Int) != 2, rfl, ha.keep [1, 2, 24] (by kernel_rfl), hI⟩
  ·
    rintro a w ⟨x29, rfl, ha, hI⟩
    try dsimp only at h0
    refine CodT.of ?_ ha
    by_cases hb31 : x29 = true
    · rw [if_pos hb31] at h0
      refine CodT.yes' (b := x29) (by kernel_rfl) hb31 ?_
      refine CodT.seq ?_
      refine CodT.regionL [0] (by kernel_rfl) ?_
      refine OpsT.pures (r := []) [0] [0] (S' := [(0, .bool false)]) (by kernel_rfl) ?_
      refine OpsT.done ?_
      refine Qn.then ?_
      refine CodT.ret ?_
      refine Qn.ret_then ?_
      have hI := hI.drop
      have hI := hI.drop
      have hI := hI.drop
      have e := someS h0
      subst e
      refine Qn.keep [0] (S' := [(0, .bool false)]) (by kernel_rfl) ?_
      exact post_ret (v := .bool false) (fun a ha => RunRes.run (vs := [.bool false]) (.tmp (t := 0) (by kernel_rfl) .nil) ha (by kernel_rfl)) ⟨rfl, hI.weaken (Hp.le_trans (Hp.le_trans hle14 hle16) hle27)⟩
    · rw [if_neg hb31] at h0
      refine CodT.no' (b := x29) (by kernel_rfl) (by simpa using hb31) ?_
      refine CodT.skip ?_
      refine Qn.then ?_
      refine CodT.seq ?_
      refine CodT.regionL [0, 1, 2, 3, 4, 5, 6, 7, 8] (by kernel_rfl) ?_
      refine OpsT.cons (Does.yi (Yl.load (d := 26) (T := 25) (v := .agg ((([.slice A20 y19.length cp21, .slice A23 y22.length cp24] : List Value))).toArray) (by kernel_rfl) (ldBN ty25 (l := (([.slice A20 y19.length cp21, .slice A23 y22.length cp24] : List Value))) (o := 0) (cs := (([.slice A20 y19.length cp21, .slice A23 y22.length cp24] : List Value))) (ent_refl _) (by kernel_rfl) (whole _ _ (by kernel_rfl)))) hI ?_)
      have hI := hI.mono (pick2 _ _ _)
      obtain ⟨Z32, hle33, hr34, hI⟩ := ownS_freeze hI
      obtain ⟨y36, hc35, h0⟩ := bindS h0
      try dsimp only at h0
      refine OpsT.cons (Does.call (d := some 27) (n := 17) (vs := [.agg ((([.slice A20 y19.length cp21, .slice A23 y22.length cp24] : List Value))).toArray, .int .i64 9]) (by kernel_rfl) en17 (c17 w0 w _ _ hI A20 cp21 y19 hr34 A23 cp24 y22 (hr25.mono hle33) 9 _ hc35) ?_)
      rintro e w ⟨A37, cp38, rfl, hI⟩
      refine ⟨_, rfl, ?_⟩
      obtain ⟨Z39, hle40, hr41, hI⟩ := ownS_freeze hI
      obtain ⟨⟨y43, y47, y51⟩, hc42, h0⟩ := bindS h0
      try dsimp only at h0
      refine OpsT.cons (Does.call (d := some 28) (n := 19) (vs := [.slice A37 y36.length cp38]) (by kernel_rfl) en19 (c19 w0 w _ _ hI A37 cp38 y36 hr41 _ hc42) ?_)
      rintro e w ⟨A44, cp45, A48, cp49, Z52, hle53, rfl, hr46, hr50, hI⟩
      refine ⟨_, rfl, ?_⟩
      refine OpsT.pures (r := [6, 7, 8]) [3, 4, 5] [1, 2, 29, 30] (S' := [(1, .slice A3 y2.length cp4), (2, .pointer (some ⟨b28, 0, none⟩)), (29, .agg ((([.slice A44 y43.length cp45, .slice A48 y47.length cp49] : List Value))).toArray), (30, .bool y51)]) (by kernel_rfl) ?_
      refine OpsT.cons (Does.allocL (d := 3) (T := 25) ((([.slice none 0 0, .slice none 0 0] : List Value))) (by kernel_rfl) ty25 hI (by kernel_rfl) ?_)
      intro b54 w hI
      refine OpsT.cons (Does.storeLit (T := 25) (b := b54) (o := 0) (v := .agg ((([.slice A44 y43.length cp45, .slice A48 y47.length cp49] : List Value))).toArray) (l := (([.slice none 0 0, .slice none 0 0] : List Value))) (vs := (([.slice A44 y43.length cp45, .slice A48 y47.length cp49] : List Value))) (L' := (([.slice A44 y43.length cp45, .slice A48 y47.length cp49] : List Value))) (by kernel_rfl) ty25 hI (by kernel_rfl) (by kernel_rfl) (by kernel_rfl) (by kernel_rfl) (by kernel_rfl) ?_)
      intro w hI
      refine OpsT.pures (r := []) [8] [1, 2, 3, 4] (S' := [(1, .slice A3 y2.length cp4), (2, .pointer (some ⟨b28, 0, none⟩)), (3, .pointer (some ⟨b54, 0, none⟩)), (4, .bool y51)]) (by kernel_rfl) ?_
      refine OpsT.done ?_
      refine Qn.then ?_
      refine CodT.seq ?_
      refine CodT.regionL [0, 1, 2, 3, 4, 5, 6, 7] (by kernel_rfl) ?_
      refine OpsT.cons (Does.yi (Yl.load (d := 32) (T := 25) (v := .agg ((([.slice A20 y19.length cp21, .slice A23 y22.length cp24] : List Value))).toArray) (by kernel_rfl) (ldBN ty25 (l := (([.slice A20 y19.length cp21, .slice A23 y22.length cp24] : List Value))) (o := 0) (cs := (([.slice A20 y19.length cp21, .slice A23 y22.length cp24] : List Value))) (pick2 _ _ _) (by kernel_rfl) (whole _ _ (by kernel_rfl)))) hI ?_)
      obtain ⟨⟨y56, y57⟩, hc55, h0⟩ := bindS h0
      try dsimp only at h0
      refine OpsT.cons (Does.call (d := some 33) (n := 24) (vs := [.agg ((([.slice A20 y19.length cp21, .slice A23 y22.length cp24] : List Value))).toArray, .int .i64 5]) (by kernel_rfl) en24 (c24 w0 w _ _ hI A20 cp21 y19 (hr34.mono (Hp.le_trans hle40 hle53)) A23 cp24 y22 (hr25.mono (Hp.le_trans (Hp.le_trans hle33 hle40) hle53)) 5 _ hc55) ?_)
      rintro e w ⟨rfl, hI⟩
      refine ⟨_, rfl, ?_⟩
      refine OpsT.pures (r := [5, 6, 7]) [2, 3, 4] [1, 2, 3, 4, 34, 35] (S' := [(1, .slice A3 y2.length cp4), (2, .pointer (some ⟨b28, 0, none⟩)), (3, .pointer (some ⟨b54, 0, none⟩)), (4, .bool y51), (34, .agg (c_RootEntry y56).toArray), (35, .bool y57)]) (by kernel_rfl) ?_
      refine OpsT.cons (Does.allocL (d := 5) (T := 47) (c_RootEntry (RootEntry.mk 0 0 0 0)) (by kernel_rfl) ty47 hI (by kernel_rfl) ?_)
      intro b58 w hI
      refine OpsT.cons (Does.storeLit (T := 47) (b := b58) (o := 0) (v := .agg (c_RootEntry y56).toArray) (l := c_RootEntry (RootEntry.mk 0 0 0 0)) (vs := c_RootEntry y56) (L' := c_RootEntry y56) (by kernel_rfl) ty47 hI (by kernel_rfl) (by kernel_rfl) (by kernel_rfl) (by kernel_rfl) (by kernel_rfl) ?_)
      intro w hI
      refine OpsT.pures (r := []) [7] [1, 2, 3, 4, 5, 6] (S' := [(1, .slice A3 y2.length cp4), (2, .pointer (some ⟨b28, 0, none⟩)), (3, .pointer (some ⟨b54, 0, none⟩)), (4, .bool y51), (5, .pointer (some ⟨b58, 0, none⟩)), (6, .bool y57)]) (by kernel_rfl) ?_
      refine OpsT.done ?_
      refine Qn.then ?_
      refine CodT.seq ?_
      refine CodT.regionL [0, 1, 2, 3] (by kernel_rfl) ?_
      refine OpsT.cons (Does.yi (Yl.load (d := 36) (T := 25) (v := .agg ((([.slice A20 y19.length cp21, .slice A23 y22.length cp24] : List Value))).toArray) (by kernel_rfl) (ldBN ty25 (l := (([.slice A20 y19.length cp21, .slice A23 y22.length cp24] : List Value))) (o := 0) (cs := (([.slice A20 y19.length cp21, .slice A23 y22.length cp24] : List Value))) (pick3 _ _ _ _) (by kernel_rfl) (whole _ _ (by kernel_rfl)))) hI ?_)
      obtain ⟨⟨y60, y63⟩, hc59, h0⟩ := bindS h0
      try dsimp only at h0
      refine OpsT.cons (Does.call (d := some 37) (n := 22) (vs := [.agg ((([.slice A20 y19.length cp21, .slice A23 y22.length cp24] : List Value))).toArray, .int .i64 3]) (by kernel_rfl) en22 (c22 w0 w _ _ hI A20 cp21 y19 (hr34.mono (Hp.le_trans hle40 hle53)) A23 cp24 y22 (hr25.mono (Hp.le_trans (Hp.le_trans hle33 hle40) hle53)) 3 _ hc59) ?_)
      rintro e w ⟨A61, cp62, A64, cp65, Z67, hle68, rfl, hr66, hI⟩
      refine ⟨_, rfl, ?_⟩
      refine OpsT.cons (Does.allocL (d := 7) (T := 25) ((([.slice none 0 0, .slice none 0 0] : List Value))) (by kernel_rfl) ty25 hI (by kernel_rfl) ?_)
      intro b69 w hI
      refine OpsT.cons (Does.storeLit (T := 25) (b := b69) (o := 0) (v := .agg ((([.slice A61 y60.length cp62, .slice A64 y63.length cp65] : List Value))).toArray) (l := (([.slice none 0 0, .slice none 0 0] : List Value))) (vs := (([.slice A61 y60.length cp62, .slice A64 y63.length cp65] : List Value))) (L' := (([.slice A61 y60.length cp62, .slice A64 y63.length cp65] : List Value))) (by kernel_rfl) ty25 hI (by kernel_rfl) (by kernel_rfl) (by kernel_rfl) (by kernel_rfl) (by kernel_rfl) ?_)
      intro w hI
      refine OpsT.done ?_
      refine Qn.then ?_
      refine CodT.seq ?_
      refine CodT.regionL [0, 1, 2, 3] (by kernel_rfl) ?_
      refine OpsT.cons (Does.yi (Yl.load (d := 38) (T := 25) (v := .agg ((([.slice A20 y19.length cp21, .slice A23 y22.length cp24] : List Value))).toArray) (by kernel_rfl) (ldBN ty25 (l := (([.slice A20 y19.length cp21, .slice A23 y22.length cp24] : List Value))) (o := 0) (cs := (([.slice A20 y19.length cp21, .slice A23 y22.length cp24] : List Value))) (pick5 _ _ _ _ _ _) (by kernel_rfl) (whole _ _ (by kernel_rfl)))) hI ?_)
      obtain ⟨⟨y71, y75⟩, hc70, h0⟩ := bindS h0
      try dsimp only at h0
      refine OpsT.cons (Does.call (d := some 39) (n := 23) (vs := [.agg ((([.slice A20 y19.length cp21, .slice A23 y22.length cp24] : List Value))).toArray, .int .i64 7]) (by kernel_rfl) en23 (c23 w0 w _ _ hI A20 cp21 y19 (hr34.mono (Hp.le_trans (Hp.le_trans hle40 hle53) hle68)) A23 cp24 y22 (hr25.mono (Hp.le_trans (Hp.le_trans (Hp.le_trans hle33 hle40) hle53) hle68)) 7 _ hc70) ?_)
      rintro e w ⟨A72, cp73, A76, cp77, Z78, hle79, rfl, hr74, hI⟩
      refine ⟨_, rfl, ?_⟩
      refine OpsT.cons (Does.allocL (d := 8) (T := 25) ((([.slice none 0 0, .slice none 0 0] : List Value))) (by kernel_rfl) ty25 hI (by kernel_rfl) ?_)
      intro b80 w hI
      refine OpsT.cons (Does.storeLit (T := 25) (b := b80) (o := 0) (v := .agg ((([.slice A72 y71.length cp73, .slice A76 y75.length cp77] : List Value))).toArray) (l := (([.slice none 0 0, .slice none 0 0] : List Value))) (vs := (([.slice A72 y71.length cp73, .slice A76 y75.length cp77] : List Value))) (L' := (([.slice A72 y71.length cp73, .slice A76 y75.length cp77] : List Value))) (by kernel_rfl) ty25 hI (by kernel_rfl) (by kernel_rfl) (by kernel_rfl) (by kernel_rfl) (by kernel_rfl) ?_)
      intro w hI
      refine OpsT.done ?_
      refine Qn.then ?_
      obtain ⟨r1, h1, h0⟩ := bindS h0
      refine CodT.meet (fun a w => ∃ (x83 : Bool) (Z81 : Hp), x83 = r1 ∧ Fr 99 [(0, .bool x83)] a ∧ Inv w0 Z81 w A ∧ Z78.le Z81) ?_ ?_
      ·
        have hI := hI.mono (pick2 _ _ _)
        obtain ⟨Z84, hle85, hr86, hI⟩ := ownS_freeze hI
        refine CodT.drawI (n := 60) [] (by kernel_rfl) (by kernel_rfl) hI ?_
        intro w hI
        refine GmT.p' 0 40 (.slice A3 y2.length cp4) (by kernel_rfl) (by kernel_rfl) ?_
        obtain ⟨hg87, h1⟩ := guardS h1
        obtain ⟨g88, hA89, hr90, hl91⟩ := ownS_get (hI.mono (pick7 _ _ _ _ _ _ _ _)) hg87.1 hg87.2
        refine GmT.r (i := 1) 2 (by kernel_rfl) (by kernel_rfl) (Yl.indexSlice (d := 41) (T := 36) (cc := cp4) (k := .i64) (j := 0) (g := g88) (o := 0) (by kernel_rfl) Go.Proofs.Try.underlying36 ty9 hA89 hg87.1 hg87.2) hI ?_
        refine GmT.r (i := 2) 2 (by kernel_rfl) (by kernel_rfl) (Yl.load (d := 42) (T := 9) (v := .string (gt y2 0)) (by kernel_rfl) (ldR ty9 (v := .string (gt y2 0)) 0 (fun w hC => hr90 w0 w _ (hC.mono (pick7 _ _ _ _ _ _ _ _))) (by kernel_rfl))) hI ?_
        refine GmT.o (i := 3) (by kernel_rfl) (Does.buildSlice (en := (cI .u8)) (d := 43) (n := 4) (T := 68) (ps := [(0, .int .u8 0), (1, .int .u8 1), (2, .int .u8 0), (3, .int .u8 0)]) ([0, 1, 0, 0] : List Int) (by kernel_rfl) Go.Proofs.Try.underlying68 ty5 (by kernel_rfl) (by kernel_rfl) (by kernel_rfl) (by kernel_rfl) (len_all (fun _ => rfl)) hI ?_)
        intro b92 w hI
        have hC := hI
        have hC := hC.drop
        refine ⟨fun _ _ => hC, ?_⟩
        refine GmT.o (i := 4) (by kernel_rfl) (Does.b2sOwn (d := 44) (src := 68) (dst := 9) (xs := ([0, 1, 0, 0] : List Int)) (by kernel_rfl) Go.Proofs.Try.underlying68 Go.Proofs.Try.underlying5 Go.Proofs.Try.underlying9 hI ?_)
        have hC := hI
        have hC := hC.drop
        refine ⟨fun _ _ => hC, ?_⟩
        refine GmT.p' 5 45 (.bool (seq (gt y2 0) (strOfNums ([0, 1, 0, 0] : List Int)))) (by kernel_rfl) (by kernel_rfl) ?_
        refine GmT.p' 6 46 (.bool (seq (gt y2 0) (strOfNums ([0, 1, 0, 0] : List Int)))) (by kernel_rfl) (by kernel_rfl) ?_
        by_cases hb93 : (seq (gt y2 0) (strOfNums ([0, 1, 0, 0] : List Int))) = true
        · rw [if_pos hb93] at h1
          refine GmT.keep [2, 3, 4, 5, 6, 7, 8, 46] (S' := [(2, .pointer (some ⟨b28, 0, none⟩)), (3, .pointer (some ⟨b54, 0, none⟩)), (4, .bool y51), (5, .pointer (some ⟨b58, 0, none⟩)), (6, .bool y57), (7, .pointer (some ⟨b69, 0, none⟩)), (8, .pointer (some ⟨b80, 0, none⟩)), (46, .bool true)]) (by simp only [hb93]; kernel_rfl) ?_
          refine GmT.p' 7 47 (.pointer (some ⟨b28, 0, none⟩)) (by kernel_rfl) (by kernel_rfl) ?_
          have hC := hI
          have hC := hC.drop
          refine GmT.r (i := 8) 2 (by kernel_rfl) (by kernel_rfl) (Yl.load (d := 48) (T := 22) (v := .slice A20 y19.length cp21) (by kernel_rfl) (ldB ty22 (l := (([.slice A20 y19.length cp21, .slice A23 y22.length cp24] : List Value))) (o := 0) (v := .slice A20 y19.length cp21) (pick6 _ _ _ _ _ _ _) (by kernel_rfl))) hC ?_
          obtain ⟨hg94, h1⟩ := guardS h1
          obtain ⟨g95, o99, hA96, hr97, hl98⟩ := RdS.get (hr34.mono (Hp.le_trans (Hp.le_trans (Hp.le_trans (Hp.le_trans hle40 hle53) hle68) hle79) hle85)) hg94.1 hg94.2
          have hC := hI
          have hC := hC.drop
          refine GmT.r (i := 9) 2 (by kernel_rfl) (by kernel_rfl) (Yl.indexSlice (d := 49) (T := 22) (cc := cp21) (k := .i64) (j := 0) (g := g95) (o := o99) (by kernel_rfl) Go.Proofs.Try.underlying22 ty47 hA96 hg94.1 hg94.2) hC ?_
          refine GmT.p' 10 50 (.pointer (some ⟨g95, o99 + (0 : Int).toNat * 4, none⟩)) (by kernel_rfl) (by kernel_rfl) ?_
          have hC := hI
          have hC := hC.drop
          refine GmT.r (i := 11) 2 (by kernel_rfl) (by kernel_rfl) (Yl.load (d := 51) (T := 3) (v := .int .i64 ((gt y19 0).Logic)) (by kernel_rfl) (ldR ty3 (v := .int .i64 ((gt y19 0).Logic)) 0 (fun w hC => hr97 w0 w _ hC) (by kernel_rfl))) hC ?_
          refine GmT.p' 12 52 (.bool (((gt y19 0).Logic) == 3)) (by kernel_rfl) (by kernel_rfl) ?_
          refine GmT.p' 13 53 (.bool (((gt y19 0).Logic) == 3)) (by kernel_rfl) (by kernel_rfl) ?_
          refine GmT.p' 14 54 (.bool (((gt y19 0).Logic) == 3)) (by kernel_rfl) (by kernel_rfl) ?_
          by_cases hb100 : (((gt y19 0).Logic) == 3) = true
          · rw [if_pos hb100] at h1
            refine GmT.keep [2, 3, 4, 5, 6, 7, 8, 54] (S' := [(2, .pointer (some ⟨b28, 0, none⟩)), (3, .pointer (some ⟨b54, 0, none⟩)), (4, .bool y51), (5, .pointer (some ⟨b58, 0, none⟩)), (6, .bool y57), (7, .pointer (some ⟨b69, 0, none⟩)), (8, .pointer (some ⟨b80, 0, none⟩)), (54, .bool true)]) (by simp only [hb100]; kernel_rfl) ?_
            refine GmT.p' 15 55 (.bool y51) (by kernel_rfl) (by kernel_rfl) ?_
            refine GmT.p' 16 56 (.bool y51) (by kernel_rfl) (by kernel_rfl) ?_
            refine GmT.p' 17 57 (.bool y51) (by kernel_rfl) (by kernel_rfl) ?_
            by_cases hb101 : y51 = true
            · rw [if_pos hb101] at h1
              refine GmT.keep [2, 3, 5, 6, 7, 8, 57] (S' := [(2, .pointer (some ⟨b28, 0, none⟩)), (3, .pointer (some ⟨b54, 0, none⟩)), (5, .pointer (some ⟨b58, 0, none⟩)), (6, .bool y57), (7, .pointer (some ⟨b69, 0, none⟩)), (8, .pointer (some ⟨b80, 0, none⟩)), (57, .bool true)]) (by simp only [hb101]; kernel_rfl) ?_
              have hC := hI
              have hC := hC.drop
              refine GmT.r (i := 18) 2 (by kernel_rfl) (by kernel_rfl) (Yl.load (d := 58) (T := 25) (v := .agg ((([.slice A44 y43.length cp45, .slice A48 y47.length cp49] : List Value))).toArray) (by kernel_rfl) (ldBN ty25 (l := (([.slice A44 y43.length cp45, .slice A48 y47.length cp49] : List Value))) (o := 0) (cs := (([.slice A44 y43.length cp45, .slice A48 y47.length cp49] : List Value))) (pick5 _ _ _ _ _ _) (by kernel_rfl) (whole _ _ (by kernel_rfl)))) hC ?_
              have hC := hI
              have hC := hC.drop
              refine GmT.r (i := 19) 2 (by kernel_rfl) (by kernel_rfl) (Yl.load (d := 59) (T := 25) (v := .agg ((([.slice A20 y19.length cp21, .slice A23 y22.length cp24] : List Value))).toArray) (by kernel_rfl) (ldBN ty25 (l := (([.slice A20 y19.length cp21, .slice A23 y22.length cp24] : List Value))) (o := 0) (cs := (([.slice A20 y19.length cp21, .slice A23 y22.length cp24] : List Value))) (pick6 _ _ _ _ _ _ _) (by kernel_rfl) (whole _ _ (by kernel_rfl)))) hC ?_
              obtain ⟨y103, hc102, h1⟩ := bindS h1
              try dsimp only at h1
              refine GmT.o (i := 20) (by kernel_rfl) (Does.call (d := some 60) (n := 15) (vs := [.agg ((([.slice A44 y43.length cp45, .slice A48 y47.length cp49] : List Value))).toArray, .agg ((([.slice A20 y19.length cp21, .slice A23 y22.length cp24] : List Value))).toArray]) (by kernel_rfl) en15 (c15 w0 w _ _ hI A44 cp45 y43 (hr46.mono (Hp.le_trans (Hp.le_trans hle68 hle79) hle85)) A48 cp49 y47 (hr50.mono (Hp.le_trans (Hp.le_trans hle68 hle79) hle85)) A20 cp21 y19 (hr34.mono (Hp.le_trans (Hp.le_trans (Hp.le_trans (Hp.le_trans hle40 hle53) hle68) hle79) hle85)) A23 cp24 y22 (hr25.mono (Hp.le_trans (Hp.le_trans (Hp.le_trans (Hp.le_trans (Hp.le_trans hle33 hle40) hle53) hle68) hle79) hle85)) _ hc102) ?_)
              rintro e w ⟨rfl, hI⟩
              refine ⟨_, rfl, ?_⟩
              have hC := hI
              have hC := hC.drop
              refine ⟨fun _ _ => hC, ?_⟩
              refine GmT.p' 21 61 (.bool y103) (by kernel_rfl) (by kernel_rfl) ?_
              refine GmT.p' 22 62 (.bool y103) (by kernel_rfl) (by kernel_rfl) ?_
              by_cases hb104 : y103 = true
              · rw [if_pos hb104] at h1
                refine GmT.keep [5, 6, 7, 8, 62] (S' := [(5, .pointer (some ⟨b58, 0, none⟩)), (6, .bool y57), (7, .pointer (some ⟨b69, 0, none⟩)), (8, .pointer (some ⟨b80, 0, none⟩)), (62, .bool true)]) (by simp only [hb104]; kernel_rfl) ?_
                refine GmT.p' 23 63 (.bool y57) (by kernel_rfl) (by kernel_rfl) ?_
                refine GmT.p' 24 64 (.bool y57) (by kernel_rfl) (by kernel_rfl) ?_
                refine GmT.p' 25 65 (.bool y57) (by kernel_rfl) (by kernel_rfl) ?_
                by_cases hb105 : y57 = true
                · rw [if_pos hb105] at h1
                  refine GmT.keep [5, 7, 8, 65] (S' := [(5, .pointer (some ⟨b58, 0, none⟩)), (7, .pointer (some ⟨b69, 0, none⟩)), (8, .pointer (some ⟨b80, 0, none⟩)), (65, .bool true)]) (by simp only [hb105]; kernel_rfl) ?_
                  refine GmT.p' 26 66 (.pointer (some ⟨b58, 2, none⟩)) (by kernel_rfl) (by kernel_rfl) ?_
                  have hC := hI
                  have hC := hC.drop
                  refine GmT.r (i := 27) 2 (by kernel_rfl) (by kernel_rfl) (Yl.load (d := 67) (T := 3) (v := .int .i64 y56.Block) (by kernel_rfl) (ldB ty3 (l := c_RootEntry y56) (o := 2) (v := .int .i64 y56.Block) (pick4 _ _ _ _ _) (by kernel_rfl))) hC ?_
                  refine GmT.p' 28 68 (.bool (y56.Block == 1)) (by kernel_rfl) (by kernel_rfl) ?_
                  refine GmT.p' 29 69 (.bool (y56.Block == 1)) (by kernel_rfl) (by kernel_rfl) ?_
                  refine GmT.p' 30 70 (.bool (y56.Block == 1)) (by kernel_rfl) (by kernel_rfl) ?_
                  by_cases hb106 : (y56.Block == 1) = true
                  · rw [if_pos hb106] at h1
                    refine GmT.keep [7, 8, 70] (S' := [(7, .pointer (some ⟨b69, 0, none⟩)), (8, .pointer (some ⟨b80, 0, none⟩)), (70, .bool true)]) (by simp only [hb106]; kernel_rfl) ?_
                    refine GmT.p' 31 71 (.pointer (some ⟨b69, 0, none⟩)) (by kernel_rfl) (by kernel_rfl) ?_
                    have hC := hI
                    have hC := hC.drop
                    refine GmT.r (i := 32) 2 (by kernel_rfl) (by kernel_rfl) (Yl.load (d := 72) (T := 22) (v := .slice A61 y60.length cp62) (by kernel_rfl) (ldB ty22 (l := (([.slice A61 y60.length cp62, .slice A64 y63.length cp65] : List Value))) (o := 0) (v := .slice A61 y60.length cp62) (pick2 _ _ _) (by kernel_rfl))) hC ?_
                    refine GmT.p' 33 73 (.int .i64 (y60.length : Int)) (by kernel_rfl) (by kernel_rfl) ?_
                    refine GmT.p' 34 74 (.bool ((y60.length : Int) == 1)) (by kernel_rfl) (by kernel_rfl) ?_
                    refine GmT.p' 35 75 (.bool ((y60.length : Int) == 1)) (by kernel_rfl) (by kernel_rfl) ?_
                    refine GmT.p' 36 76 (.bool ((y60.length : Int) == 1)) (by kernel_rfl) (by kernel_rfl) ?_
                    by_cases hb107 : ((y60.length : Int) == 1) = true
                    · rw [if_pos hb107] at h1
                      refine GmT.keep [8, 76] (S' := [(8, .pointer (some ⟨b80, 0, none⟩)), (76, .bool true)]) (by simp only [hb107]; kernel_rfl) ?_
                      refine GmT.p' 37 77 (.pointer (some ⟨b80, 1, none⟩)) (by kernel_rfl) (by kernel_rfl) ?_
                      have hC := hI
                      have hC := hC.drop
                      refine GmT.r (i := 38) 2 (by kernel_rfl) (by kernel_rfl) (Yl.load (d := 78) (T := 23) (v := .slice A76 y75.length cp77) (by kernel_rfl) (ldB ty23 (l := (([.slice A72 y71.length cp73, .slice A76 y75.length cp77] : List Value))) (o := 1) (v := .slice A76 y75.length cp77) (ent_refl _) (by kernel_rfl))) hC ?_
                      refine GmT.p' 39 79 (.int .i64 (y75.length : Int)) (by kernel_rfl) (by kernel_rfl) ?_
                      refine GmT.p' 40 80 (.bool ((y75.length : Int) == 1)) (by kernel_rfl) (by kernel_rfl) ?_
                      refine GmT.p' 41 81 (.bool ((y75.length : Int) == 1)) (by kernel_rfl) (by kernel_rfl) ?_
                      refine GmT.p' 42 82 (.bool ((y75.length : Int) == 1)) (by kernel_rfl) (by kernel_rfl) ?_
                      by_cases hb108 : ((y75.length : Int) == 1) = true
                      · rw [if_pos hb108] at h1
                        refine GmT.keep [8, 82] (S' := [(8, .pointer (some ⟨b80, 0, none⟩)), (82, .bool true)]) (by simp only [hb108]; kernel_rfl) ?_
                        refine GmT.p' 43 83 (.pointer (some ⟨b80, 1, none⟩)) (by kernel_rfl) (by kernel_rfl) ?_
                        have hC := hI
                        have hC := hC.drop
                        refine GmT.r (i := 44) 2 (by kernel_rfl) (by kernel_rfl) (Yl.load (d := 84) (T := 23) (v := .slice A76 y75.length cp77) (by kernel_rfl) (ldB ty23 (l := (([.slice A72 y71.length cp73, .slice A76 y75.length cp77] : List Value))) (o := 1) (v := .slice A76 y75.length cp77) (ent_refl _) (by kernel_rfl))) hC ?_
                        obtain ⟨hg109, h1⟩ := guardS h1
                        obtain ⟨g110, o114, hA111, hr112, hl113⟩ := RdS.get hr86 hg109.1 hg109.2
                        have hC := hI
                        have hC := hC.drop
                        refine GmT.r (i := 45) 2 (by kernel_rfl) (by kernel_rfl) (Yl.indexSlice (d := 85) (T := 23) (cc := cp77) (k := .i64) (j := 0) (g := g110) (o := o114) (by kernel_rfl) Go.Proofs.Try.underlying23 ty3 hA111 hg109.1 hg109.2) hC ?_
                        have hC := hI
                        have hC := hC.drop
                        refine GmT.r (i := 46) 2 (by kernel_rfl) (by kernel_rfl) (Yl.load (d := 86) (T := 3) (v := .int .i64 (gt y75 0)) (by kernel_rfl) (ldR ty3 (v := .int .i64 (gt y75 0)) 0 (fun w hC => hr112 w0 w _ hC) (by kernel_rfl))) hC ?_
                        refine GmT.p' 47 87 (.bool ((gt y75 0) == 7)) (by kernel_rfl) (by kernel_rfl) ?_
                        refine GmT.p' 48 88 (.bool ((gt y75 0) == 7)) (by kernel_rfl) (by kernel_rfl) ?_
                        refine GmT.p' 49 89 (.bool ((gt y75 0) == 7)) (by kernel_rfl) (by kernel_rfl) ?_
                        by_cases hb115 : ((gt y75 0) == 7) = true
                        · rw [if_pos hb115] at h1
                          refine GmT.keep [8, 89] (S' := [(8, .pointer (some ⟨b80, 0, none⟩)), (89, .bool true)]) (by simp only [hb115]; kernel_rfl) ?_
                          have hC := hI
                          have hC := hC.drop
                          refine GmT.r (i := 50) 2 (by kernel_rfl) (by kernel_rfl) (Yl.load (d := 90) (T := 25) (v := .agg ((([.slice A72 y71.length cp73, .slice A76 y75.length cp77] : List Value))).toArray) (by kernel_rfl) (ldBN ty25 (l := (([.slice A72 y71.length cp73, .slice A76 y75.length cp77] : List Value))) (o := 0) (cs := (([.slice A72 y71.length cp73, .slice A76 y75.length cp77] : List Value))) (ent_refl _) (by kernel_rfl) (whole _ _ (by kernel_rfl)))) hC ?_
                          obtain ⟨y117, hc116, h1⟩ := bindS h1
                          try dsimp only at h1
                          refine GmT.o (i := 51) (by kernel_rfl) (Does.call (d := some 91) (n := 14) (vs := [.agg ((([.slice A72 y71.length cp73, .slice A76 y75.length cp77] : List Value))).toArray]) (by kernel_rfl) en14 (c14 w0 w _ _ hI A72 cp73 y71 (hr74.mono hle85) A76 cp77 y75 hr86 _ hc116) ?_)
                          rintro e w ⟨rfl, hI⟩
                          refine ⟨_, rfl, ?_⟩
                          have hC := hI
                          have hC := hC.drop
                          refine ⟨fun _ _ => hC, ?_⟩
                          refine GmT.p' 52 92 (.bool y117) (by kernel_rfl) (by kernel_rfl) ?_
                          refine GmT.p' 53 93 (.bool y117) (by kernel_rfl) (by kernel_rfl) ?_
                          by_cases hb118 : y117 = true
                          · rw [if_pos hb118] at h1
                            refine GmT.keep [93] (S' := [(93, .bool true)]) (by simp only [hb118]; kernel_rfl) ?_
                            refine GmT.o (i := 54) (by kernel_rfl) (Does.buildSlice (en := (cI .i64)) (d := 94) (n := 1) (T := 23) (ps := [(0, .int .i64 (-1))]) ([-1] : List Int) (by kernel_rfl) Go.Proofs.Try.underlying23 ty3 (by kernel_rfl) (by kernel_rfl) (by kernel_rfl) (by kernel_rfl) (len_all (fun _ => rfl)) hI ?_)
                            intro b119 w hI
                            have hC := hI
                            have hC := hC.drop
                            have hC := hC.drop
                            refine ⟨fun _ _ => hC, ?_⟩
                            refine GmT.p' 55 95 (.agg ((([.slice none 0 0, .slice (some ⟨b119, 0, none⟩) (([-1] : List Int).length) 1] : List Value))).toArray) (by kernel_rfl) (by kernel_rfl) ?_
                            obtain ⟨Z120, hle121, hr122, hI⟩ := ownS_freeze hI
                            obtain ⟨y124, hc123, h1⟩ := bindS h1
                            try dsimp only at h1
                            refine GmT.o (i := 56) (by kernel_rfl) (Does.call (d := some 96) (n := 14) (vs := [.agg ((([.slice none 0 0, .slice (some ⟨b119, 0, none⟩) (([-1] : List Int).length) 1] : List Value))).toArray]) (by kernel_rfl) en14 (c14 w0 w _ _ hI none 0 ([] : List RootEntry) (RdS.nil _ _ _ _ _ (Nat.zero_le _)) (some ⟨b119, 0, none⟩) 1 ([-1] : List Int) hr122 _ hc123) ?_)
                            rintro e w ⟨rfl, hI⟩
                            refine ⟨_, rfl, ?_⟩
                            have hC := hI
                            have hC := hC.drop
                            have hC := hC.weaken hle121
                            refine ⟨fun _ _ => hC, ?_⟩
                            refine GmT.p' 57 97 (.bool (!y124)) (by kernel_rfl) (by kernel_rfl) ?_
                            refine GmT.p' 58 98 (.bool (!y124)) (by kernel_rfl) (by kernel_rfl) ?_
                            refine GmT.p' 59 0 (.bool (!y124)) (by kernel_rfl) (by kernel_rfl) ?_
                            refine GmT.done (by kernel_rfl) ?_
                            have hI := hI.drop
                            have hI := hI.drop
                            have hI := hI.drop
                            have hI := hI.drop
                            have hI := hI.drop
                            have hI := hI.drop
                            have hI := hI.drop
                            have hI := hI.drop
                            have e := someS h1
                            subst e
                            exact Qn.thenJ fun a ha => ⟨!y124, Z120, rfl, ha.keep [0] (by kernel_rfl), hI, (Hp.le_trans hle85 hle121)⟩
                          · rw [if_neg hb118] at h1
                            have hb118 : y117 = false := by simpa using hb118
                            refine GmT.keep [93] (S' := [(93, .bool false)]) (by simp only [hb118]; kernel_rfl) ?_
                            refine GmT.p' 54 94 (undef) (by kernel_rfl) (by kernel_rfl) ?_
                            refine GmT.p' 55 95 (undef) (by kernel_rfl) (by kernel_rfl) ?_
                            refine GmT.p' 56 96 (undef) (by kernel_rfl) (by kernel_rfl) ?_
                            refine GmT.p' 57 97 (undef) (by kernel_rfl) (by kernel_rfl) ?_
                            refine GmT.p' 58 98 (.bool false) (by kernel_rfl) (by kernel_rfl) ?_
                            refine GmT.p' 59 0 (.bool false) (by kernel_rfl) (by kernel_rfl) ?_
                            refine GmT.done (by kernel_rfl) ?_
                            have hI := hI.drop
                            have hI := hI.drop
                            have hI := hI.drop
                            have hI := hI.drop
                            have hI := hI.drop
                            have hI := hI.drop
                            have hI := hI.drop
                            have hI := hI.drop
                            have e := someS h1
                            subst e
                            exact Qn.thenJ fun a ha => ⟨false, Z84, rfl, ha.keep [0] (by kernel_rfl), hI, hle85⟩
                        · rw [if_neg hb115] at h1
                          have hb115 : ((gt y75 0) == 7) = false := by simpa using hb115
                          refine GmT.keep [8, 89] (S' := [(8, .pointer (some ⟨b80, 0, none⟩)), (89, .bool false)]) (by simp only [hb115]; kernel_rfl) ?_
                          refine GmT.p' 50 90 (undef) (by kernel_rfl) (by kernel_rfl) ?_
                          refine GmT.p' 51 91 (undef) (by kernel_rfl) (by kernel_rfl) ?_
                          refine GmT.p' 52 92 (.bool false) (by kernel_rfl) (by kernel_rfl) ?_
                          refine GmT.p' 53 93 (.bool false) (by kernel_rfl) (by kernel_rfl) ?_
                          refine GmT.p' 54 94 (undef) (by kernel_rfl) (by kernel_rfl) ?_
                          refine GmT.p' 55 95 (undef) (by kernel_rfl) (by kernel_rfl) ?_
                          refine GmT.p' 56 96 (undef) (by kernel_rfl) (by kernel_rfl) ?_
                          refine GmT.p' 57 97 (undef) (by kernel_rfl) (by kernel_rfl) ?_
                          refine GmT.p' 58 98 (.bool false) (by kernel_rfl) (by kernel_rfl) ?_
                          refine GmT.p' 59 0 (.bool false) (by kernel_rfl) (by kernel_rfl) ?_
                          refine GmT.done (by kernel_rfl) ?_
                          have hI := hI.drop
                          have hI := hI.drop
                          have hI := hI.drop
                          have hI := hI.drop
                          have hI := hI.drop
                          have hI := hI.drop
                          have hI := hI.drop
                          have hI := hI.drop
                          have e := someS h1
                          subst e
                          exact Qn.thenJ fun a ha => ⟨false, Z84, rfl, ha.keep [0] (by kernel_rfl), hI, hle85⟩
                      · rw [if_neg hb108] at h1
                        have hb108 : ((y75.length : Int) == 1) = false := by simpa using hb108
                        refine GmT.keep [8, 82] (S' := [(8, .pointer (some ⟨b80, 0, none⟩)), (82, .bool false)]) (by simp only [hb108]; kernel_rfl) ?_
                        refine GmT.p' 43 83 (undef) (by kernel_rfl) (by kernel_rfl) ?_
                        refine GmT.p' 44 84 (undef) (by kernel_rfl) (by kernel_rfl) ?_
                        refine GmT.p' 45 85 (undef) (by kernel_rfl) (by kernel_rfl) ?_
                        refine GmT.p' 46 86 (undef) (by kernel_rfl) (by kernel_rfl) ?_
                        refine GmT.p' 47 87 (undef) (by kernel_rfl) (by kernel_rfl) ?_
                        refine GmT.p' 48 88 (.bool false) (by kernel_rfl) (by kernel_rfl) ?_
                        refine GmT.p' 49 89 (.bool false) (by kernel_rfl) (by kernel_rfl) ?_
                        refine GmT.p' 50 90 (undef) (by kernel_rfl) (by kernel_rfl) ?_
                        refine GmT.p' 51 91 (undef) (by kernel_rfl) (by kernel_rfl) ?_
                        refine GmT.p' 52 92 (.bool false) (by kernel_rfl) (by kernel_rfl) ?_
                        refine GmT.p' 53 93 (.bool false) (by kernel_rfl) (by kernel_rfl) ?_
                        refine GmT.p' 54 94 (undef) (by kernel_rfl) (by kernel_rfl) ?_
                        refine GmT.p' 55 95 (undef) (by kernel_rfl) (by kernel_rfl) ?_
                        refine GmT.p' 56 96 (undef) (by kernel_rfl) (by kernel_rfl) ?_
                        refine GmT.p' 57 97 (undef) (by kernel_rfl) (by kernel_rfl) ?_
                        refine GmT.p' 58 98 (.bool false) (by kernel_rfl) (by kernel_rfl) ?_
                        refine GmT.p' 59 0 (.bool false) (by kernel_rfl) (by kernel_rfl) ?_
                        refine GmT.done (by kernel_rfl) ?_
                        have hI := hI.drop
                        have hI := hI.drop
                        have hI := hI.drop
                        have hI := hI.drop
                        have hI := hI.drop
                        have hI := hI.drop
                        have hI := hI.drop
                        have hI := hI.drop
                        have e := someS h1
                        subst e
                        exact Qn.thenJ fun a ha => ⟨false, Z84, rfl, ha.keep [0] (by kernel_rfl), hI, hle85⟩
                    · rw [if_neg hb107] at h1
                      have hb107 : ((y60.length : Int) == 1) = false := by simpa using hb107
                      refine GmT.keep [8, 76] (S' := [(8, .pointer (some ⟨b80, 0, none⟩)), (76, .bool false)]) (by simp only [hb107]; kernel_rfl) ?_
                      refine GmT.p' 37 77 (undef) (by kernel_rfl) (by kernel_rfl) ?_
                      refine GmT.p' 38 78 (undef) (by kernel_rfl) (by kernel_rfl) ?_
                      refine GmT.p' 39 79 (undef) (by kernel_rfl) (by kernel_rfl) ?_
                      refine GmT.p' 40 80 (undef) (by kernel_rfl) (by kernel_rfl) ?_
                      refine GmT.p' 41 81 (.bool false) (by kernel_rfl) (by kernel_rfl) ?_
                      refine GmT.p' 42 82 (.bool false) (by kernel_rfl) (by kernel_rfl) ?_
                      refine GmT.p' 43 83 (undef) (by kernel_rfl) (by kernel_rfl) ?_
                      refine GmT.p' 44 84 (undef) (by kernel_rfl) (by kernel_rfl) ?_
                      refine GmT.p' 45 85 (undef) (by kernel_rfl) (by kernel_rfl) ?_
                      refine GmT.p' 46 86 (undef) (by kernel_rfl) (by kernel_rfl) ?_
                      refine GmT.p' 47 87 (undef) (by kernel_rfl) (by kernel_rfl) ?_
                      refine GmT.p' 48 88 (.bool false) (by kernel_rfl) (by kernel_rfl) ?_
                      refine GmT.p' 49 89 (.bool false) (by kernel_rfl) (by kernel_rfl) ?_
                      refine GmT.p' 50 90 (undef) (by kernel_rfl) (by kernel_rfl) ?_
                      refine GmT.p' 51 91 (undef) (by kernel_rfl) (by kernel_rfl) ?_
                      refine GmT.p' 52 92 (.bool false) (by kernel_rfl) (by kernel_rfl) ?_
                      refine GmT.p' 53 93 (.bool false) (by kernel_rfl) (by kernel_rfl) ?_
                      refine GmT.p' 54 94 (undef) (by kernel_rfl) (by kernel_rfl) ?_
                      refine GmT.p' 55 95 (undef) (by kernel_rfl) (by kernel_rfl) ?_
                      refine GmT.p' 56 96 (undef) (by kernel_rfl) (by kernel_rfl) ?_
                      refine GmT.p' 57 97 (undef) (by kernel_rfl) (by kernel_rfl) ?_
                      refine GmT.p' 58 98 (.bool false) (by kernel_rfl) (by kernel_rfl) ?_
                      refine GmT.p' 59 0 (.bool false) (by kernel_rfl) (by kernel_rfl) ?_
                      refine GmT.done (by kernel_rfl) ?_
                      have hI := hI.drop
                      have hI := hI.drop
                      have hI := hI.drop
                      have hI := hI.drop
                      have hI := hI.drop
                      have hI := hI.drop
                      have hI := hI.drop
                      have hI := hI.drop
                      have e := someS h1
                      subst e
                      exact Qn.thenJ fun a ha => ⟨false, Z84, rfl, ha.keep [0] (by kernel_rfl), hI, hle85⟩
                  · rw [if_neg hb106] at h1
                    have hb106 : (y56.Block == 1) = false := by simpa using hb106
                    refine GmT.keep [7, 8, 70] (S' := [(7, .pointer (some ⟨b69, 0, none⟩)), (8, .pointer (some ⟨b80, 0, none⟩)), (70, .bool false)]) (by simp only [hb106]; kernel_rfl) ?_
                    refine GmT.p' 31 71 (undef) (by kernel_rfl) (by kernel_rfl) ?_
                    refine GmT.p' 32 72 (undef) (by kernel_rfl) (by kernel_rfl) ?_
                    refine GmT.p' 33 73 (undef) (by kernel_rfl) (by kernel_rfl) ?_
                    refine GmT.p' 34 74 (undef) (by kernel_rfl) (by kernel_rfl) ?_
                    refine GmT.p' 35 75 (.bool false) (by kernel_rfl) (by kernel_rfl) ?_
                    refine GmT.p' 36 76 (.bool false) (by kernel_rfl) (by kernel_rfl) ?_
                    refine GmT.p' 37 77 (undef) (by kernel_rfl) (by kernel_rfl) ?_
                    refine GmT.p' 38 78 (undef) (by kernel_rfl) (by kernel_rfl) ?_
                    refine GmT.p' 39 79 (undef) (by kernel_rfl) (by kernel_rfl) ?_
                    refine GmT.p' 40 80 (undef) (by kernel_rfl) (by kernel_rfl) ?_
                    refine GmT.p' 41 81 (.bool false) (by kernel_rfl) (by kernel_rfl) ?_
                    refine GmT.p' 42 82 (.bool false) (by kernel_rfl) (by kernel_rfl) ?_
                    refine GmT.p' 43 83 (undef) (by kernel_rfl) (by kernel_rfl) ?_
                    refine GmT.p' 44 84 (undef) (by kernel_rfl) (by kernel_rfl) ?_
                    refine GmT.p' 45 85 (undef) (by kernel_rfl) (by kernel_rfl) ?_
                    refine GmT.p' 46 86 (undef) (by kernel_rfl) (by kernel_rfl) ?_
                    refine GmT.p' 47 87 (undef) (by kernel_rfl) (by kernel_rfl) ?_
                    refine GmT.p' 48 88 (.bool false) (by kernel_rfl) (by kernel_rfl) ?_
                    refine GmT.p' 49 89 (.bool false) (by kernel_rfl) (by kernel_rfl) ?_
                    refine GmT.p' 50 90 (undef) (by kernel_rfl) (by kernel_rfl) ?_
                    refine GmT.p' 51 91 (undef) (by kernel_rfl) (by kernel_rfl) ?_
                    refine GmT.p' 52 92 (.bool false) (by kernel_rfl) (by kernel_rfl) ?_
                    refine GmT.p' 53 93 (.bool false) (by kernel_rfl) (by kernel_rfl) ?_
                    refine GmT.p' 54 94 (undef) (by kernel_rfl) (by kernel_rfl) ?_
                    refine GmT.p' 55 95 (undef) (by kernel_rfl) (by kernel_rfl) ?_
                    refine GmT.p' 56 96 (undef) (by kernel_rfl) (by kernel_rfl) ?_
                    refine GmT.p' 57 97 (undef) (by kernel_rfl) (by kernel_rfl) ?_
                    refine GmT.p' 58 98 (.bool false) (by kernel_rfl) (by kernel_rfl) ?_
                    refine GmT.p' 59 0 (.bool false) (by kernel_rfl) (by kernel_rfl) ?_
                    refine GmT.done (by kernel_rfl) ?_
                    have hI := hI.drop
                    have hI := hI.drop
                    have hI := hI.drop
                    have hI := hI.drop
                    have hI := hI.drop
                    have hI := hI.drop
                    have hI := hI.drop
                    have hI := hI.drop
                    have e := someS h1
                    subst e
                    exact Qn.thenJ fun a ha => ⟨false, Z84, rfl, ha.keep [0] (by kernel_rfl), hI, hle85⟩
                · rw [if_neg hb105] at h1
                  have hb105 : y57 = false := by simpa using hb105
                  refine GmT.keep [5, 7, 8, 65] (S' := [(5, .pointer (some ⟨b58, 0, none⟩)), (7, .pointer (some ⟨b69, 0, none⟩)), (8, .pointer (some ⟨b80, 0, none⟩)), (65, .bool false)]) (by simp only [hb105]; kernel_rfl) ?_
                  refine GmT.p' 26 66 (undef) (by kernel_rfl) (by kernel_rfl) ?_
                  refine GmT.p' 27 67 (undef) (by kernel_rfl) (by kernel_rfl) ?_
                  refine GmT.p' 28 68 (undef) (by kernel_rfl) (by kernel_rfl) ?_
                  refine GmT.p' 29 69 (.bool false) (by kernel_rfl) (by kernel_rfl) ?_
                  refine GmT.p' 30 70 (.bool false) (by kernel_rfl) (by kernel_rfl) ?_
                  refine GmT.p' 31 71 (undef) (by kernel_rfl) (by kernel_rfl) ?_
                  refine GmT.p' 32 72 (undef) (by kernel_rfl) (by kernel_rfl) ?_
                  refine GmT.p' 33 73 (undef) (by kernel_rfl) (by kernel_rfl) ?_
                  refine GmT.p' 34 74 (undef) (by kernel_rfl) (by kernel_rfl) ?_
                  refine GmT.p' 35 75 (.bool false) (by kernel_rfl) (by kernel_rfl) ?_
                  refine GmT.p' 36 76 (.bool false) (by kernel_rfl) (by kernel_rfl) ?_
                  refine GmT.p' 37 77 (undef) (by kernel_rfl) (by kernel_rfl) ?_
                  refine GmT.p' 38 78 (undef) (by kernel_rfl) (by kernel_rfl) ?_
                  refine GmT.p' 39 79 (undef) (by kernel_rfl) (by kernel_rfl) ?_
                  refine GmT.p' 40 80 (undef) (by kernel_rfl) (by kernel_rfl) ?_
                  refine GmT.p' 41 81 (.bool false) (by kernel_rfl) (by kernel_rfl) ?_
                  refine GmT.p' 42 82 (.bool false) (by kernel_rfl) (by kernel_rfl) ?_
                  refine GmT.p' 43 83 (undef) (by kernel_rfl) (by kernel_rfl) ?_
                  refine GmT.p' 44 84 (undef) (by kernel_rfl) (by kernel_rfl) ?_
                  refine GmT.p' 45 85 (undef) (by kernel_rfl) (by kernel_rfl) ?_
                  refine GmT.p' 46 86 (undef) (by kernel_rfl) (by kernel_rfl) ?_
                  refine GmT.p' 47 87 (undef) (by kernel_rfl) (by kernel_rfl) ?_
                  refine GmT.p' 48 88 (.bool false) (by kernel_rfl) (by kernel_rfl) ?_
                  refine GmT.p' 49 89 (.bool false) (by kernel_rfl) (by kernel_rfl) ?_
                  refine GmT.p' 50 90 (undef) (by kernel_rfl) (by kernel_rfl) ?_
                  refine GmT.p' 51 91 (undef) (by kernel_rfl) (by kernel_rfl) ?_
                  refine GmT.p' 52 92 (.bool false) (by kernel_rfl) (by kernel_rfl) ?_
                  refine GmT.p' 53 93 (.bool false) (by kernel_rfl) (by kernel_rfl) ?_
                  refine GmT.p' 54 94 (undef) (by kernel_rfl) (by kernel_rfl) ?_
                  refine GmT.p' 55 95 (undef) (by kernel_rfl) (by kernel_rfl) ?_
                  refine GmT.p' 56 96 (undef) (by kernel_rfl) (by kernel_rfl) ?_
                  refine GmT.p' 57 97 (undef) (by kernel_rfl) (by kernel_rfl) ?_
                  refine GmT.p' 58 98 (.bool false) (by kernel_rfl) (by kernel_rfl) ?_
                  refine GmT.p' 59 0 (.bool false) (by kernel_rfl) (by kernel_rfl) ?_
                  refine GmT.done (by kernel_rfl) ?_
                  have hI := hI.drop
                  have hI := hI.drop
                  have hI := hI.drop
                  have hI := hI.drop
                  have hI := hI.drop
                  have hI := hI.drop
                  have hI := hI.drop
                  have hI := hI.drop
                  have e := someS h1
                  subst e
                  exact Qn.thenJ fun a ha => ⟨false, Z84, rfl, ha.keep [0] (by kernel_rfl), hI, hle85⟩
              · rw [if_neg hb104] at h1
                have hb104 : y103 = false := by simpa using hb104
                refine GmT.keep [5, 6, 7, 8, 62] (S' := [(5, .pointer (some ⟨b58, 0, none⟩)), (6, .bool y57), (7, .pointer (some ⟨b69, 0, none⟩)), (8, .pointer (some ⟨b80, 0, none⟩)), (62, .bool false)]) (by simp only [hb104]; kernel_rfl) ?_
                refine GmT.p' 23 63 (undef) (by kernel_rfl) (by kernel_rfl) ?_
                refine GmT.p' 24 64 (.bool false) (by kernel_rfl) (by kernel_rfl) ?_
                refine GmT.p' 25 65 (.bool false) (by kernel_rfl) (by kernel_rfl) ?_
                refine GmT.p' 26 66 (undef) (by kernel_rfl) (by kernel_rfl) ?_
                refine GmT.p' 27 67 (undef) (by kernel_rfl) (by kernel_rfl) ?_
                refine GmT.p' 28 68 (undef) (by kernel_rfl) (by kernel_rfl) ?_
                refine GmT.p' 29 69 (.bool false) (by kernel_rfl) (by kernel_rfl) ?_
                refine GmT.p' 30 70 (.bool false) (by kernel_rfl) (by kernel_rfl) ?_
                refine GmT.p' 31 71 (undef) (by kernel_rfl) (by kernel_rfl) ?_
                refine GmT.p' 32 72 (undef) (by kernel_rfl) (by kernel_rfl) ?_
                refine GmT.p' 33 73 (undef) (by kernel_rfl) (by kernel_rfl) ?_
                refine GmT.p' 34 74 (undef) (by kernel_rfl) (by kernel_rfl) ?_
                refine GmT.p' 35 75 (.bool false) (by kernel_rfl) (by kernel_rfl) ?_
                refine GmT.p' 36 76 (.bool false) (by kernel_rfl) (by kernel_rfl) ?_
                refine GmT.p' 37 77 (undef) (by kernel_rfl) (by kernel_rfl) ?_
                refine GmT.p' 38 78 (undef) (by kernel_rfl) (by kernel_rfl) ?_
                refine GmT.p' 39 79 (undef) (by kernel_rfl) (by kernel_rfl) ?_
                refine GmT.p' 40 80 (undef) (by kernel_rfl) (by kernel_rfl) ?_
                refine GmT.p' 41 81 (.bool false) (by kernel_rfl) (by kernel_rfl) ?_
                refine GmT.p' 42 82 (.bool false) (by kernel_rfl) (by kernel_rfl) ?_
                refine GmT.p' 43 83 (undef) (by kernel_rfl) (by kernel_rfl) ?_
                refine GmT.p' 44 84 (undef) (by kernel_rfl) (by kernel_rfl) ?_
                refine GmT.p' 45 85 (undef) (by kernel_rfl) (by kernel_rfl) ?_
                refine GmT.p' 46 86 (undef) (by kernel_rfl) (by kernel_rfl) ?_
                refine GmT.p' 47 87 (undef) (by kernel_rfl) (by kernel_rfl) ?_
                refine GmT.p' 48 88 (.bool false) (by kernel_rfl) (by kernel_rfl) ?_
                refine GmT.p' 49 89 (.bool false) (by kernel_rfl) (by kernel_rfl) ?_
                refine GmT.p' 50 90 (undef) (by kernel_rfl) (by kernel_rfl) ?_
                refine GmT.p' 51 91 (undef) (by kernel_rfl) (by kernel_rfl) ?_
                refine GmT.p' 52 92 (.bool false) (by kernel_rfl) (by kernel_rfl) ?_
                refine GmT.p' 53 93 (.bool false) (by kernel_rfl) (by kernel_rfl) ?_
                refine GmT.p' 54 94 (undef) (by kernel_rfl) (by kernel_rfl) ?_
                refine GmT.p' 55 95 (undef) (by kernel_rfl) (by kernel_rfl) ?_
                refine GmT.p' 56 96 (undef) (by kernel_rfl) (by kernel_rfl) ?_
                refine GmT.p' 57 97 (undef) (by kernel_rfl) (by kernel_rfl) ?_
                refine GmT.p' 58 98 (.bool false) (by kernel_rfl) (by kernel_rfl) ?_
                refine GmT.p' 59 0 (.bool false) (by kernel_rfl) (by kernel_rfl) ?_
                refine GmT.done (by kernel_rfl) ?_
                have hI := hI.drop
                have hI := hI.drop
                have hI := hI.drop
                have hI := hI.drop
                have hI := hI.drop
                have hI := hI.drop
                have hI := hI.drop
                have hI := hI.drop
                have e := someS h1
                subst e
                exact Qn.thenJ fun a ha => ⟨false, Z84, rfl, ha.keep [0] (by kernel_rfl), hI, hle85⟩
            · rw [if_neg hb101] at h1
              have hb101 : y51 = false := by simpa using hb101
              refine GmT.keep [2, 3, 5, 6, 7, 8, 57] (S' := [(2, .pointer (some ⟨b28, 0, none⟩)), (3, .pointer (some ⟨b54, 0, none⟩)), (5, .pointer (some ⟨b58, 0, none⟩)), (6, .bool y57), (7, .pointer (some ⟨b69, 0, none⟩)), (8, .pointer (some ⟨b80, 0, none⟩)), (57, .bool false)]) (by simp only [hb101]; kernel_rfl) ?_
              refine GmT.p' 18 58 (undef) (by kernel_rfl) (by kernel_rfl) ?_
              refine GmT.p' 19 59 (undef) (by kernel_rfl) (by kernel_rfl) ?_
              refine GmT.p' 20 60 (undef) (by kernel_rfl) (by kernel_rfl) ?_
              refine GmT.p' 21 61 (.bool false) (by kernel_rfl) (by kernel_rfl) ?_
              refine GmT.p' 22 62 (.bool false) (by kernel_rfl) (by kernel_rfl) ?_
              refine GmT.p' 23 63 (undef) (by kernel_rfl) (by kernel_rfl) ?_
              refine GmT.p' 24 64 (.bool false) (by kernel_rfl) (by kernel_rfl) ?_
              refine GmT.p' 25 65 (.bool false) (by kernel_rfl) (by kernel_rfl) ?_
              refine GmT.p' 26 66 (undef) (by kernel_rfl) (by kernel_rfl) ?_
              refine GmT.p' 27 67 (undef) (by kernel_rfl) (by kernel_rfl) ?_
              refine GmT.p' 28 68 (undef) (by kernel_rfl) (by kernel_rfl) ?_
              refine GmT.p' 29 69 (.bool false) (by kernel_rfl) (by kernel_rfl) ?_
              refine GmT.p' 30 70 (.bool false) (by kernel_rfl) (by kernel_rfl) ?_
              refine GmT.p' 31 71 (undef) (by kernel_rfl) (by kernel_rfl) ?_
              refine GmT.p' 32 72 (undef) (by kernel_rfl) (by kernel_rfl) ?_
              refine GmT.p' 33 73 (undef) (by kernel_rfl) (by kernel_rfl) ?_
              refine GmT.p' 34 74 (undef) (by kernel_rfl) (by kernel_rfl) ?_
              refine GmT.p' 35 75 (.bool false) (by kernel_rfl) (by kernel_rfl) ?_
              refine GmT.p' 36 76 (.bool false) (by kernel_rfl) (by kernel_rfl) ?_
              refine GmT.p' 37 77 (undef) (by kernel_rfl) (by kernel_rfl) ?_
              refine GmT.p' 38 78 (undef) (by kernel_rfl) (by kernel_rfl) ?_
              refine GmT.p' 39 79 (undef) (by kernel_rfl) (by kernel_rfl) ?_
              refine GmT.p' 40 80 (undef) (by kernel_rfl) (by kernel_rfl) ?_
              refine GmT.p' 41 81 (.bool false) (by kernel_rfl) (by kernel_rfl) ?_
              refine GmT.p' 42 82 (.bool false) (by kernel_rfl) (by kernel_rfl) ?_
              refine GmT.p' 43 83 (undef) (by kernel_rfl) (by kernel_rfl) ?_
              refine GmT.p' 44 84 (undef) (by kernel_rfl) (by kernel_rfl) ?_
              refine GmT.p' 45 85 (undef) (by kernel_rfl) (by kernel_rfl) ?_
              refine GmT.p' 46 86 (undef) (by kernel_rfl) (by kernel_rfl) ?_
              refine GmT.p' 47 87 (undef) (by kernel_rfl) (by kernel_rfl) ?_
              refine GmT.p' 48 88 (.bool false) (by kernel_rfl) (by kernel_rfl) ?_
              refine GmT.p' 49 89 (.bool false) (by kernel_rfl) (by kernel_rfl) ?_
              refine GmT.p' 50 90 (undef) (by kernel_rfl) (by kernel_rfl) ?_
              refine GmT.p' 51 91 (undef) (by kernel_rfl) (by kernel_rfl) ?_
              refine GmT.p' 52 92 (.bool false) (by kernel_rfl) (by kernel_rfl) ?_
              refine GmT.p' 53 93 (.bool false) (by kernel_rfl) (by kernel_rfl) ?_
              refine GmT.p' 54 94 (undef) (by kernel_rfl) (by kernel_rfl) ?_
              refine GmT.p' 55 95 (undef) (by kernel_rfl) (by kernel_rfl) ?_
              refine GmT.p' 56 96 (undef) (by kernel_rfl) (by kernel_rfl) ?_
              refine GmT.p' 57 97 (undef) (by kernel_rfl) (by kernel_rfl) ?_
              refine GmT.p' 58 98 (.bool false) (by kernel_rfl) (by kernel_rfl) ?_
              refine GmT.p' 59 0 (.bool false) (by kernel_rfl) (by kernel_rfl) ?_
              refine GmT.done (by kernel_rfl) ?_
              have hI := hI.drop
              have hI := hI.drop
              have hI := hI.drop
              have hI := hI.drop
              have hI := hI.drop
              have hI := hI.drop
              have hI := hI.drop
              have hI := hI.drop
              have e := someS h1
              subst e
              exact Qn.thenJ fun a ha => ⟨false, Z84, rfl, ha.keep [0] (by kernel_rfl), hI, hle85⟩
          · rw [if_neg hb100] at h1
            have hb100 : (((gt y19 0).Logic) == 3) = false := by simpa using hb100
            refine GmT.keep [2, 3, 4, 5, 6, 7, 8, 54] (S' := [(2, .pointer (some ⟨b28, 0, none⟩)), (3, .pointer (some ⟨b54, 0, none⟩)), (4, .bool y51), (5, .pointer (some ⟨b58, 0, none⟩)), (6, .bool y57), (7, .pointer (some ⟨b69, 0, none⟩)), (8, .pointer (some ⟨b80, 0, none⟩)), (54, .bool false)]) (by simp only [hb100]; kernel_rfl) ?_
            refine GmT.p' 15 55 (undef) (by kernel_rfl) (by kernel_rfl) ?_
            refine GmT.p' 16 56 (.bool false) (by kernel_rfl) (by kernel_rfl) ?_
            refine GmT.p' 17 57 (.bool false) (by kernel_rfl) (by kernel_rfl) ?_
            refine GmT.p' 18 58 (undef) (by kernel_rfl) (by kernel_rfl) ?_
            refine GmT.p' 19 59 (undef) (by kernel_rfl) (by kernel_rfl) ?_
            refine GmT.p' 20 60 (undef) (by kernel_rfl) (by kernel_rfl) ?_
            refine GmT.p' 21 61 (.bool false) (by kernel_rfl) (by kernel_rfl) ?_
            refine GmT.p' 22 62 (.bool false) (by kernel_rfl) (by kernel_rfl) ?_
            refine GmT.p' 23 63 (undef) (by kernel_rfl) (by kernel_rfl) ?_
            refine GmT.p' 24 64 (.bool false) (by kernel_rfl) (by kernel_rfl) ?_
            refine GmT.p' 25 65 (.bool false) (by kernel_rfl) (by kernel_rfl) ?_
            refine GmT.p' 26 66 (undef) (by kernel_rfl) (by kernel_rfl) ?_
            refine GmT.p' 27 67 (undef) (by kernel_rfl) (by kernel_rfl) ?_
            refine GmT.p' 28 68 (undef) (by kernel_rfl) (by kernel_rfl) ?_
            refine GmT.p' 29 69 (.bool false) (by kernel_rfl) (by kernel_rfl) ?_
            refine GmT.p' 30 70 (.bool false) (by kernel_rfl) (by kernel_rfl) ?_
            refine GmT.p' 31 71 (undef) (by kernel_rfl) (by kernel_rfl) ?_
            refine GmT.p' 32 72 (undef) (by kernel_rfl) (by kernel_rfl) ?_
            refine GmT.p' 33 73 (undef) (by kernel_rfl) (by kernel_rfl) ?_
            refine GmT.p' 34 74 (undef) (by kernel_rfl) (by kernel_rfl) ?_
            refine GmT.p' 35 75 (.bool false) (by kernel_rfl) (by kernel_rfl) ?_
            refine GmT.p' 36 76 (.bool false) (by kernel_rfl) (by kernel_rfl) ?_
            refine GmT.p' 37 77 (undef) (by kernel_rfl) (by kernel_rfl) ?_
            refine GmT.p' 38 78 (undef) (by kernel_rfl) (by kernel_rfl) ?_
            refine GmT.p' 39 79 (undef) (by kernel_rfl) (by kernel_rfl) ?_
            refine GmT.p' 40 80 (undef) (by kernel_rfl) (by kernel_rfl) ?_
            refine GmT.p' 41 81 (.bool false) (by kernel_rfl) (by kernel_rfl) ?_
            refine GmT.p' 42 82 (.bool false) (by kernel_rfl) (by kernel_rfl) ?_
            refine GmT.p' 43 83 (undef) (by kernel_rfl) (by kernel_rfl) ?_
            refine GmT.p' 44 84 (undef) (by kernel_rfl) (by kernel_rfl) ?_
            refine GmT.p' 45 85 (undef) (by kernel_rfl) (by kernel_rfl) ?_
            refine GmT.p' 46 86 (undef) (by kernel_rfl) (by kernel_rfl) ?_
            refine GmT.p' 47 87 (undef) (by kernel_rfl) (by kernel_rfl) ?_
            refine GmT.p' 48 88 (.bool false) (by kernel_rfl) (by kernel_rfl) ?_
            refine GmT.p' 49 89 (.bool false) (by kernel_rfl) (by kernel_rfl) ?_
            refine GmT.p' 50 90 (undef) (by kernel_rfl) (by kernel_rfl) ?_
            refine GmT.p' 51 91 (undef) (by kernel_rfl) (by kernel_rfl) ?_
            refine GmT.p' 52 92 (.bool false) (by kernel_rfl) (by kernel_rfl) ?_
            refine GmT.p' 53 93 (.bool false) (by kernel_rfl) (by kernel_rfl) ?_
            refine GmT.p' 54 94 (undef) (by kernel_rfl) (by kernel_rfl) ?_
            refine GmT.p' 55 95 (undef) (by kernel_rfl) (by kernel_rfl) ?_
            refine GmT.p' 56 96 (undef) (by kernel_rfl) (by kernel_rfl) ?_
            refine GmT.p' 57 97 (undef) (by kernel_rfl) (by kernel_rfl) ?_
            refine GmT.p' 58 98 (.bool false) (by kernel_rfl) (by kernel_rfl) ?_
            refine GmT.p' 59 0 (.bool false) (by kernel_rfl) (by kernel_rfl) ?_
            refine GmT.done (by kernel_rfl) ?_
            have hI := hI.drop
            have hI := hI.drop
            have hI := hI.drop
            have hI := hI.drop
            have hI := hI.drop
            have hI := hI.drop
            have hI := hI.drop
            have hI := hI.drop
            have e := someS h1
            subst e
            exact Qn.thenJ fun a ha => ⟨false, Z84, rfl, ha.keep [0] (by kernel_rfl), hI, hle85⟩
        · rw [if_neg hb93] at h1
          have hb93 : (seq (gt y2 0) (strOfNums ([0, 1, 0, 0] : List Int))) = false := by simpa using hb93
          refine GmT.keep [2, 3, 4, 5, 6, 7, 8, 46] (S' := [(2, .pointer (some ⟨b28, 0, none⟩)), (3, .pointer (some ⟨b54, 0, none⟩)), (4, .bool y51), (5, .pointer (some ⟨b58, 0, none⟩)), (6, .bool y57), (7, .pointer (some ⟨b69, 0, none⟩)), (8, .pointer (some ⟨b80, 0, none⟩)), (46, .bool false)]) (by simp only [hb93]; kernel_rfl) ?_
          refine GmT.p' 7 47 (undef) (by kernel_rfl) (by kernel_rfl) ?_
          refine GmT.p' 8 48 (undef) (by kernel_rfl) (by kernel_rfl) ?_
          refine GmT.p' 9 49 (undef) (by kernel_rfl) (by kernel_rfl) ?_
          refine GmT.p' 10 50 (undef) (by kernel_rfl) (by kernel_rfl) ?_
          refine GmT.p' 11 51 (undef) (by kernel_rfl) (by kernel_rfl) ?_
          refine GmT.p' 12 52 (undef) (by kernel_rfl) (by kernel_rfl) ?_
          refine GmT.p' 13 53 (.bool false) (by kernel_rfl) (by kernel_rfl) ?_
          refine GmT.p' 14 54 (.bool false) (by kernel_rfl) (by kernel_rfl) ?_
          refine GmT.p' 15 55 (undef) (by kernel_rfl) (by kernel_rfl) ?_
          refine GmT.p' 16 56 (.bool false) (by kernel_rfl) (by kernel_rfl) ?_
          refine GmT.p' 17 57 (.bool false) (by kernel_rfl) (by kernel_rfl) ?_
          refine GmT.p' 18 58 (undef) (by kernel_rfl) (by kernel_rfl) ?_
          refine GmT.p' 19 59 (undef) (by kernel_rfl) (by kernel_rfl) ?_
          refine GmT.p' 20 60 (undef) (by kernel_rfl) (by kernel_rfl) ?_
          refine GmT.p' 21 61 (.bool false) (by kernel_rfl) (by kernel_rfl) ?_
          refine GmT.p' 22 62 (.bool false) (by kernel_rfl) (by kernel_rfl) ?_
          refine GmT.p' 23 63 (undef) (by kernel_rfl) (by kernel_rfl) ?_
          refine GmT.p' 24 64 (.bool false) (by kernel_rfl) (by kernel_rfl) ?_
          refine GmT.p' 25 65 (.bool false) (by kernel_rfl) (by kernel_rfl) ?_
          refine GmT.p' 26 66 (undef) (by kernel_rfl) (by kernel_rfl) ?_
          refine GmT.p' 27 67 (undef) (by kernel_rfl) (by kernel_rfl) ?_
          refine GmT.p' 28 68 (undef) (by kernel_rfl) (by kernel_rfl) ?_
          refine GmT.p' 29 69 (.bool false) (by kernel_rfl) (by kernel_rfl) ?_
          refine GmT.p' 30 70 (.bool false) (by kernel_rfl) (by kernel_rfl) ?_
          refine GmT.p' 31 71 (undef) (by kernel_rfl) (by kernel_rfl) ?_
          refine GmT.p' 32 72 (undef) (by kernel_rfl) (by kernel_rfl) ?_
          refine GmT.p' 33 73 (undef) (by kernel_rfl) (by kernel_rfl) ?_
          refine GmT.p' 34 74 (undef) (by kernel_rfl) (by kernel_rfl) ?_
          refine GmT.p' 35 75 (.bool false) (by kernel_rfl) (by kernel_rfl) ?_
          refine GmT.p' 36 76 (.bool false) (by kernel_rfl) (by kernel_rfl) ?_
          refine GmT.p' 37 77 (undef) (by kernel_rfl) (by kernel_rfl) ?_
          refine GmT.p' 38 78 (undef) (by kernel_rfl) (by kernel_rfl) ?_
          refine GmT.p' 39 79 (undef) (by kernel_rfl) (by kernel_rfl) ?_
          refine GmT.p' 40 80 (undef) (by kernel_rfl) (by kernel_rfl) ?_
          refine GmT.p' 41 81 (.bool false) (by kernel_rfl) (by kernel_rfl) ?_
          refine GmT.p' 42 82 (.bool false) (by kernel_rfl) (by kernel_rfl) ?_
          refine GmT.p' 43 83 (undef) (by kernel_rfl) (by kernel_rfl) ?_
          refine GmT.p' 44 84 (undef) (by kernel_rfl) (by kernel_rfl) ?_
          refine GmT.p' 45 85 (undef) (by kernel_rfl) (by kernel_rfl) ?_
          refine GmT.p' 46 86 (undef) (by kernel_rfl) (by kernel_rfl) ?_
          refine GmT.p' 47 87 (undef) (by kernel_rfl) (by kernel_rfl) ?_
          refine GmT.p' 48 88 (.bool false) (by kernel_rfl) (by kernel_rfl) ?_
          refine GmT.p' 49 89 (.bool false) (by kernel_rfl) (by kernel_rfl) ?_
          refine GmT.p' 50 90 (undef) (by kernel_rfl) (by kernel_rfl) ?_
          refine GmT.p' 51 91 (undef) (by kernel_rfl) (by kernel_rfl) ?_
          refine GmT.p' 52 92 (.bool false) (by kernel_rfl) (by kernel_rfl) ?_
          refine GmT.p' 53 93 (.bool false) (by kernel_rfl) (by kernel_rfl) ?_
          refine GmT.p' 54 94 (undef) (by kernel_rfl) (by kernel_rfl) ?_
          refine GmT.p' 55 95 (undef) (by kernel_rfl) (by kernel_rfl) ?_
          refine GmT.p' 56 96 (undef) (by kernel_rfl) (by kernel_rfl) ?_
          refine GmT.p' 57 97 (undef) (by kernel_rfl) (by kernel_rfl) ?_
          refine GmT.p' 58 98 (.bool false) (by kernel_rfl) (by kernel_rfl) ?_
          refine GmT.p' 59 0 (.bool false) (by kernel_rfl) (by kernel_rfl) ?_
          refine GmT.done (by kernel_rfl) ?_
          have hI := hI.drop
          have hI := hI.drop
          have hI := hI.drop
          have hI := hI.drop
          have hI := hI.drop
          have hI := hI.drop
          have hI := hI.drop
          have hI := hI.drop
          have e := someS h1
          subst e
          exact Qn.thenJ fun a ha => ⟨false, Z84, rfl, ha.keep [0] (by kernel_rfl), hI, hle85⟩
      ·
        rintro a w ⟨x83, Z81, rfl, ha, hI, hle82⟩
        try dsimp only at h0
        refine CodT.of ?_ ha
        refine CodT.ret ?_
        have e := someS h0
        subst e
        refine Qn.keep [0] (S' := [(0, .bool x83)]) (by kernel_rfl) ?_
        exact post_ret (v := .bool x83) (fun a ha => RunRes.run (vs := [.bool x83]) (.tmp (t := 0) (by kernel_rfl) .nil) ha (by kernel_rfl)) ⟨rfl, hI.weaken (Hp.le_trans (Hp.le_trans (Hp.le_trans (Hp.le_trans (Hp.le_trans (Hp.le_trans (Hp.le_trans (Hp.le_trans hle14 hle16) hle27) hle33) hle40) hle53) hle68) hle79) hle82)⟩
set_option maxRecDepth 100000 in
set_option maxHeartbeats 4000000 in
/-- cenotaph/cenotaphlaw15.Of -/
theorem c12 (w0 w : World) (Z : Hp) (A : HP) (hI : Inv w0 Z w A) (A_a0_Map : Option Addr) (c_a0_Map : Nat) (a0_Map : (List RootEntry)) (hr_a0_Map : RdS Z c_RootEntry 4 A_a0_Map c_a0_Map a0_Map) (A_a0_Gone : Option Addr) (c_a0_Gone : Nat) (a0_Gone : (List Int)) (hr_a0_Gone : RdS Z (cI .i64) 1 A_a0_Gone c_a0_Gone a0_Gone) (r : ((List Ref15Entry) × (List Int))) (h0 : law15_Of a0_Map a0_Gone = some r) :
    Calls prog 12 #[.agg ((([.slice A_a0_Map a0_Map.length c_a0_Map, .slice A_a0_Gone a0_Gone.length c_a0_Gone] : List Value))).toArray] w (fun e w' => ∃ (A1 : Option Addr) (c1 : Nat) (A2 : Option Addr) (c2 : Nat) (Z' : Hp), Z.le Z' ∧ e = .returned (.agg ((([.slice A1 r.1.length c1, .slice A2 r.2.length c2] : List Value))).toArray) ∧ RdS Z' (cI .i64) 1 A2 c2 r.2 ∧ Inv w0 Z' w' (star (ownS 69 c_Ref15Entry 4 A1 c1 r.1) A)) := by
  have e4 := calls_intro (R := (fun e w' => ∃ (A1 : Option Addr) (c1 : Nat) (A2 : Option Addr) (c2 : Nat) (Z' : Hp), Z.le Z' ∧ e = .returned (.agg ((([.slice A1 r.1.length c1, .slice A2 r.2.length c2] : List Value))).toArray) ∧ RdS Z' (cI .i64) 1 A2 c2 r.2 ∧ Inv w0 Z' w' (star (ownS 69 c_Ref15Entry 4 A1 c1 r.1) A))) (w := w) (args := [.agg ((([.slice A_a0_Map a0_Map.length c_a0_Map, .slice A_a0_Gone a0_Gone.length c_a0_Gone] : List Value))).toArray]) (fn := Go.Proofs.Try.f12) 36 Go.Proofs.Try.func12 (by rfl) Go.Proofs.Try.ntmps12 (by kernel_rfl)
  refine e4 ?_
  clear e4
  unfold law15_Of at h0
  refine CodT.seq ?_
  refine CodT.regionL [0, 1] (by kernel_rfl) ?_
  refine OpsT.cons (Does.boxL (d := 1) (T := 25) (v := .agg ((([.slice A_a0_Map a0_Map.length c_a0_Map, .slice A_a0_Gone a0_Gone.length c_a0_Gone] : List Value))).toArray) ((([.slice A_a0_Map a0_Map.length c_a0_Map, .slice A_a0_Gone a0_Gone.length c_a0_Gone] : List Value))) (by kernel_rfl) hI (by kernel_rfl) ?_)
  intro b1 w hI
  refine OpsT.cons (Does.allocL (d := 2) (T := 30) ((([.slice none 0 0, .slice none 0 0] : List Value))) (by kernel_rfl) ty30 hI (by kernel_rfl) ?_)
  intro b2 w hI
  refine OpsT.done ?_
  refine Qn.then ?_
  refine CodT.seq ?_
  refine CodT.regionL [0, 1, 2, 3, 4] (by kernel_rfl) ?_
  refine OpsT.pures (r := [1, 2, 3, 4]) [0] [1, 2, 6] (S' := [(1, .pointer (some ⟨b1, 0, none⟩)), (2, .pointer (some ⟨b2, 0, none⟩)), (6, .pointer (some ⟨b1, 1, none⟩))]) (by kernel_rfl) ?_
  refine OpsT.cons (Does.yi (Yl.load (d := 7) (T := 23) (v := .slice A_a0_Gone a0_Gone.length c_a0_Gone) (by kernel_rfl) (ldB ty23 (l := (([.slice A_a0_Map a0_Map.length c_a0_Map, .slice A_a0_Gone a0_Gone.length c_a0_Gone] : List Value))) (o := 1) (v := .slice A_a0_Gone a0_Gone.length c_a0_Gone) (pick2 _ _ _) (by kernel_rfl))) hI ?_)
  refine OpsT.pures (r := [3, 4]) [2] [1, 2, 8] (S' := [(1, .pointer (some ⟨b1, 0, none⟩)), (2, .pointer (some ⟨b2, 0, none⟩)), (8, .agg ((([.slice none 0 0, .slice A_a0_Gone a0_Gone.length c_a0_Gone] : List Value))).toArray)]) (by kernel_rfl) ?_
  refine OpsT.cons (Does.allocL (d := 3) (T := 30) ((([.slice none 0 0, .slice none 0 0] : List Value))) (by kernel_rfl) ty30 hI (by kernel_rfl) ?_)
  intro b3 w hI
  refine OpsT.cons (Does.storeLit (T := 30) (b := b3) (o := 0) (v := .agg ((([.slice none 0 0, .slice A_a0_Gone a0_Gone.length c_a0_Gone] : List Value))).toArray) (l := (([.slice none 0 0, .slice none 0 0] : List Value))) (vs := (([.slice none 0 0, .slice A_a0_Gone a0_Gone.length c_a0_Gone] : List Value))) (L' := (([.slice none 0 0, .slice A_a0_Gone a0_Gone.length c_a0_Gone] : List Value))) (by kernel_rfl) ty30 hI (by kernel_rfl) (by kernel_rfl) (by kernel_rfl) (by kernel_rfl) (by kernel_rfl) ?_)
  intro w hI
  refine OpsT.done ?_
  refine Qn.then ?_
  refine CodT.seq ?_
  refine CodT.seq ?_
  refine CodT.regionL [0] (by kernel_rfl) ?_
  refine OpsT.pures (r := []) [0] [1, 2, 3, 4] (S' := [(1, .pointer (some ⟨b1, 0, none⟩)), (2, .pointer (some ⟨b2, 0, none⟩)), (3, .pointer (some ⟨b3, 0, none⟩)), (4, .int .i64 0)]) (by kernel_rfl) ?_
  refine OpsT.done ?_
  refine Qn.then ?_
  obtain ⟨r1, h1, h0⟩ := bindS h0
  refine CodT.meet1 (fun a w => ∃ (x4 : (List Ref15Entry)) (x7 : (List Int)) (A5 : Option Addr) (cp6 : Nat) (A8 : Option Addr) (cp9 : Nat), (x4, x7) = r1 ∧ Fr 36 [(2, .pointer (some ⟨b2, 0, none⟩)), (3, .pointer (some ⟨b3, 0, none⟩))] a ∧ Inv w0 Z w (star (ownS 69 c_Ref15Entry 4 A5 cp6 x4) (star (pt b3 (.cells ((([.slice A5 x4.length cp6, .slice A8 x7.length cp9] : List Value))).toArray 30 (0, 0))) (star (pt b2 (.cells ((([.slice none 0 0, .slice none 0 0] : List Value))).toArray 30 (0, 0))) A))) ∧ RdS Z (cI .i64) 1 A8 cp9 x7) ?_ ?_
  ·
    refine CodT.block ?_
    have hI := ownS_nil (α := Ref15Entry) hI 69 c_Ref15Entry 4
    refine (fun a ha => wp_loopN (fun k a w => ∃ (x11 : Int) (x12 : (List Ref15Entry)) (x15 : (List Int)) (A13 : Option Addr) (cp14 : Nat) (A16 : Option Addr) (cp17 : Nat), law15_Of.l0 a0_Map k x11 x12 x15 = some r1 ∧ Fr 36 [(1, .pointer (some ⟨b1, 0, none⟩)), (2, .pointer (some ⟨b2, 0, none⟩)), (3, .pointer (some ⟨b3, 0, none⟩)), (4, .int .i64 x11)] a ∧ Inv w0 Z w (star (ownS 69 c_Ref15Entry 4 A13 cp14 x12) (star (pt b3 (.cells ((([.slice A13 x12.length cp14, .slice A16 x15.length cp17] : List Value))).toArray 30 (0, 0))) (star (pt b2 (.cells ((([.slice none 0 0, .slice none 0 0] : List Value))).toArray 30 (0, 0))) (star (pt b1 (.cells ((([.slice A_a0_Map a0_Map.length c_a0_Map, .slice A_a0_Gone a0_Gone.length c_a0_Gone] : List Value))).toArray 25 (0, 0))) A)))) ∧ RdS Z (cI .i64) 1 A16 cp17 x15) ?_ FU a w ⟨0, ([] : List Ref15Entry), a0_Gone, none, 0, A_a0_Gone, c_a0_Gone, h1, ha.keep [1, 2, 3, 4] (by kernel_rfl), hI, hr_a0_Gone⟩)
    clear h1 hI
    rintro k a w ⟨x11, x12, x15, A13, cp14, A16, cp17, h1, ha, hI, hr18⟩
    rcases k with _ | k
    · cases h1
    simp only [law15_Of.l0] at h1
    refine CodT.of ?_ ha
    refine CodT.seq ?_
    refine CodT.seq ?_
    refine CodT.regionL [0, 1, 2, 3, 4] (by kernel_rfl) ?_
    refine OpsT.pures (r := [2, 3, 4]) [0, 1] [1, 2, 3, 4, 9, 10] (S' := [(1, .pointer (some ⟨b1, 0, none⟩)), (2, .pointer (some ⟨b2, 0, none⟩)), (3, .pointer (some ⟨b3, 0, none⟩)), (4, .int .i64 x11), (9, .int .i64 x11), (10, .pointer (some ⟨b1, 0, none⟩))]) (by kernel_rfl) ?_
    refine OpsT.cons (Does.yi (Yl.load (d := 11) (T := 22) (v := .slice A_a0_Map a0_Map.length c_a0_Map) (by kernel_rfl) (ldB ty22 (l := (([.slice A_a0_Map a0_Map.length c_a0_Map, .slice A_a0_Gone a0_Gone.length c_a0_Gone] : List Value))) (o := 0) (v := .slice A_a0_Map a0_Map.length c_a0_Map) (pick4 _ _ _ _ _) (by kernel_rfl))) hI ?_)
    refine OpsT.pures (r := []) [3, 4] [1, 2, 3, 4, 13] (S' := [(1, .pointer (some ⟨b1, 0, none⟩)), (2, .pointer (some ⟨b2, 0, none⟩)), (3, .pointer (some ⟨b3, 0, none⟩)), (4, .int .i64 x11), (13, .bool (decide (x11 < (a0_Map.length : Int))))]) (by kernel_rfl) ?_
    refine OpsT.done ?_
    refine Qn.then ?_
    by_cases hb19 : (decide (x11 < (a0_Map.length : Int))) = true
    · rw [if_pos hb19] at h1
      refine CodT.yes' (b := decide (x11 < (a0_Map.length : Int))) (by kernel_rfl) hb19 ?_
      refine CodT.skip ?_
      refine Qn.then ?_
      refine CodT.seq ?_
      refine CodT.block ?_
      refine CodT.seq ?_
      refine CodT.regionL [0, 1, 2, 3, 4, 5, 6] (by kernel_rfl) ?_
      refine OpsT.pures (r := [1, 2, 3, 4, 5, 6]) [0] [1, 2, 3, 4, 16] (S' := [(1, .pointer (some ⟨b1, 0, none⟩)), (2, .pointer (some ⟨b2, 0, none⟩)), (3, .pointer (some ⟨b3, 0, none⟩)), (4, .int .i64 x11), (16, .pointer (some ⟨b1, 0, none⟩))]) (by kernel_rfl) ?_
      refine OpsT.cons (Does.yi (Yl.load (d := 17) (T := 22) (v := .slice A_a0_Map a0_Map.length c_a0_Map) (by kernel_rfl) (ldB ty22 (l := (([.slice A_a0_Map a0_Map.length c_a0_Map, .slice A_a0_Gone a0_Gone.length c_a0_Gone] : List Value))) (o := 0) (v := .slice A_a0_Map a0_Map.length c_a0_Map) (pick4 _ _ _ _ _) (by kernel_rfl))) hI ?_)
      refine OpsT.pures (r := [3, 4, 5, 6]) [2] [1, 2, 3, 4, 17, 18] (S' := [(1, .pointer (some ⟨b1, 0, none⟩)), (2, .pointer (some ⟨b2, 0, none⟩)), (3, .pointer (some ⟨b3, 0, none⟩)), (4, .int .i64 x11), (17, .slice A_a0_Map a0_Map.length c_a0_Map), (18, .int .i64 x11)]) (by kernel_rfl) ?_
      obtain ⟨hg20, h1⟩ := guardS h1
      obtain ⟨g21, o25, hA22, hr23, hl24⟩ := RdS.get hr_a0_Map hg20.1 hg20.2
      refine OpsT.cons (Does.yi (Yl.indexSlice (d := 19) (T := 22) (cc := c_a0_Map) (k := .i64) (j := x11) (g := g21) (o := o25) (by kernel_rfl) Go.Proofs.Try.underlying22 ty47 hA22 hg20.1 hg20.2) hI ?_)
      refine OpsT.cons (Does.yi (Yl.load (d := 20) (T := 47) (v := .agg (c_RootEntry (gt a0_Map x11)).toArray) (by kernel_rfl) (ldRN ty47 (cs := c_RootEntry (gt a0_Map x11)) 0 (fun w hC => hr23 w0 w _ hC) hl24 (whole _ _ hl24))) hI ?_)
      refine OpsT.cons (Does.allocL (d := 5) (T := 47) (c_RootEntry (RootEntry.mk 0 0 0 0)) (by kernel_rfl) ty47 hI (by kernel_rfl) ?_)
      intro b26 w hI
      refine OpsT.cons (Does.storeLit (T := 47) (b := b26) (o := 0) (v := .agg (c_RootEntry (gt a0_Map x11)).toArray) (l := c_RootEntry (RootEntry.mk 0 0 0 0)) (vs := c_RootEntry (gt a0_Map x11)) (L' := c_RootEntry (gt a0_Map x11)) (by kernel_rfl) ty47 hI (by kernel_rfl) (by kernel_rfl) (by kernel_rfl) (by kernel_rfl) (by kernel_rfl) ?_)
      intro w hI
      refine OpsT.done ?_
      refine Qn.then ?_
      refine CodT.regionL [0, 1, 2, 3, 4, 5, 6, 7, 8, 9, 10, 11, 12, 13, 14] (by kernel_rfl) ?_
      refine OpsT.pures (r := [1, 2, 3, 4, 5, 6, 7, 8, 9, 10, 11, 12, 13, 14]) [0] [1, 2, 3, 4, 5, 21] (S' := [(1, .pointer (some ⟨b1, 0, none⟩)), (2, .pointer (some ⟨b2, 0, none⟩)), (3, .pointer (some ⟨b3, 0, none⟩)), (4, .int .i64 x11), (5, .pointer (some ⟨b26, 0, none⟩)), (21, .pointer (some ⟨b3, 0, none⟩))]) (by kernel_rfl) ?_
      refine OpsT.cons (Does.yi (Yl.load (d := 22) (T := 28) (v := .slice A13 x12.length cp14) (by kernel_rfl) (ldB ty28 (l := (([.slice A13 x12.length cp14, .slice A16 x15.length cp17] : List Value))) (o := 0) (v := .slice A13 x12.length cp14) (pick3 _ _ _ _) (by kernel_rfl))) hI ?_)
      refine OpsT.pures (r := [3, 4, 5, 6, 7, 8, 9, 10, 11, 12, 13, 14]) [2] [1, 2, 3, 4, 5, 22, 23] (S' := [(1, .pointer (some ⟨b1, 0, none⟩)), (2, .pointer (some ⟨b2, 0, none⟩)), (3, .pointer (some ⟨b3, 0, none⟩)), (4, .int .i64 x11), (5, .pointer (some ⟨b26, 0, none⟩)), (22, .slice A13 x12.length cp14), (23, .pointer (some ⟨b26, 0, none⟩))]) (by kernel_rfl) ?_
      refine OpsT.cons (Does.yi (Yl.load (d := 24) (T := 3) (v := .int .i64 ((gt a0_Map x11).Logic)) (by kernel_rfl) (ldB ty3 (l := c_RootEntry (gt a0_Map x11)) (o := 0) (v := .int .i64 ((gt a0_Map x11).Logic)) (ent_refl _) (by kernel_rfl))) hI ?_)
      refine OpsT.pures (r := [5, 6, 7, 8, 9, 10, 11, 12, 13, 14]) [4] [1, 2, 3, 4, 5, 22, 24, 25] (S' := [(1, .pointer (some ⟨b1, 0, none⟩)), (2, .pointer (some ⟨b2, 0, none⟩)), (3, .pointer (some ⟨b3, 0, none⟩)), (4, .int .i64 x11), (5, .pointer (some ⟨b26, 0, none⟩)), (22, .slice A13 x12.length cp14), (24, .int .i64 ((gt a0_Map x11).Logic)), (25, .pointer (some ⟨b26, 1, none⟩))]) (by kernel_rfl) ?_
      refine OpsT.cons (Does.yi (Yl.load (d := 26) (T := 3) (v := .int .i64 ((gt a0_Map x11).Owner)) (by kernel_rfl) (ldB ty3 (l := c_RootEntry (gt a0_Map x11)) (o := 1) (v := .int .i64 ((gt a0_Map x11).Owner)) (ent_refl _) (by kernel_rfl))) hI ?_)
      refine OpsT.pures (r := [7, 8, 9, 10, 11, 12, 13, 14]) [6] [1, 2, 3, 4, 5, 22, 24, 26, 27] (S' := [(1, .pointer (some ⟨b1, 0, none⟩)), (2, .pointer (some ⟨b2, 0, none⟩)), (3, .pointer (some ⟨b3, 0, none⟩)), (4, .int .i64 x11), (5, .pointer (some ⟨b26, 0, none⟩)), (22, .slice A13 x12.length cp14), (24, .int .i64 ((gt a0_Map x11).Logic)), (26, .int .i64 ((gt a0_Map x11).Owner)), (27, .pointer (some ⟨b26, 2, none⟩))]) (by kernel_rfl) ?_
      refine OpsT.cons (Does.yi (Yl.load (d := 28) (T := 3) (v := .int .i64 ((gt a0_Map x11).Block)) (by kernel_rfl) (ldB ty3 (l := c_RootEntry (gt a0_Map x11)) (o := 2) (v := .int .i64 ((gt a0_Map x11).Block)) (ent_refl _) (by kernel_rfl))) hI ?_)
      refine OpsT.pures (r := [9, 10, 11, 12, 13, 14]) [8] [1, 2, 3, 4, 22, 24, 26, 28, 29] (S' := [(1, .pointer (some ⟨b1, 0, none⟩)), (2, .pointer (some ⟨b2, 0, none⟩)), (3, .pointer (some ⟨b3, 0, none⟩)), (4, .int .i64 x11), (22, .slice A13 x12.length cp14), (24, .int .i64 ((gt a0_Map x11).Logic)), (26, .int .i64 ((gt a0_Map x11).Owner)), (28, .int .i64 ((gt a0_Map x11).Block)), (29, .pointer (some ⟨b26, 3, none⟩))]) (by kernel_rfl) ?_
      refine OpsT.cons (Does.yi (Yl.load (d := 30) (T := 3) (v := .int .i64 ((gt a0_Map x11).At)) (by kernel_rfl) (ldB ty3 (l := c_RootEntry (gt a0_Map x11)) (o := 3) (v := .int .i64 ((gt a0_Map x11).At)) (ent_refl _) (by kernel_rfl))) hI ?_)
      refine OpsT.pures (r := [11, 12, 13, 14]) [10] [1, 2, 3, 4, 22, 31] (S' := [(1, .pointer (some ⟨b1, 0, none⟩)), (2, .pointer (some ⟨b2, 0, none⟩)), (3, .pointer (some ⟨b3, 0, none⟩)), (4, .int .i64 x11), (22, .slice A13 x12.length cp14), (31, .agg (c_Ref15Entry (Ref15Entry.mk ((gt a0_Map x11).Logic) ((gt a0_Map x11).Owner) ((gt a0_Map x11).Block) ((gt a0_Map x11).At))).toArray)]) (by kernel_rfl) ?_
      refine OpsT.cons (Does.buildSlice (en := c_Ref15Entry) (d := 32) (n := 1) (T := 28) (ps := [(0, .agg (c_Ref15Entry (Ref15Entry.mk ((gt a0_Map x11).Logic) ((gt a0_Map x11).Owner) ((gt a0_Map x11).Block) ((gt a0_Map x11).At))).toArray)]) ([(Ref15Entry.mk ((gt a0_Map x11).Logic) ((gt a0_Map x11).Owner) ((gt a0_Map x11).Block) ((gt a0_Map x11).At))] : List Ref15Entry) (by kernel_rfl) Go.Proofs.Try.underlying28 ty69 (by kernel_rfl) (by kernel_rfl) (by kernel_rfl) (by kernel_rfl) (len_all (fun _ => rfl)) hI ?_)
      intro b27 w hI
      obtain ⟨hg28, h1⟩ := guardS h1
      have hI := hI.mono (pick3 _ _ _ _)
      refine OpsT.cons (Does.append (d := 33) (t := 28) (tx := 28) (ty := 28) (ys := x12) (zs := ([(Ref15Entry.mk ((gt a0_Map x11).Logic) ((gt a0_Map x11).Owner) ((gt a0_Map x11).Block) ((gt a0_Map x11).At))] : List Ref15Entry)) (x := .slice (some ⟨b27, 0, none⟩) (([(Ref15Entry.mk ((gt a0_Map x11).Logic) ((gt a0_Map x11).Owner) ((gt a0_Map x11).Block) ((gt a0_Map x11).At))] : List Ref15Entry).length) 1) (by kernel_rfl) Go.Proofs.Try.underlying28 ty69 (by kernel_rfl) hI (src_own Go.Proofs.Try.underlying28 (hI.mono (pick2 _ _ _)) (one_flat _ (fun _ => rfl))) (ownS_facts (hI.mono (pick2 _ _ _))).2.2 (by unfold LIM at hg28; omega) hg28 ?_)
      intro A29 cp30 w hI
      refine OpsT.pures (r := [14]) [13] [1, 2, 3, 4, 33, 34] (S' := [(1, .pointer (some ⟨b1, 0, none⟩)), (2, .pointer (some ⟨b2, 0, none⟩)), (3, .pointer (some ⟨b3, 0, none⟩)), (4, .int .i64 x11), (33, .slice A29 ((x12 ++ ([(Ref15Entry.mk ((gt a0_Map x11).Logic) ((gt a0_Map x11).Owner) ((gt a0_Map x11).Block) ((gt a0_Map x11).At))] : List Ref15Entry)).length) cp30), (34, .pointer (some ⟨b3, 0, none⟩))]) (by kernel_rfl) ?_
      have hI := hI.mono (pick4 _ _ _ _ _)
      refine OpsT.cons (Does.storeLit (T := 28) (b := b3) (o := 0) (v := .slice A29 ((x12 ++ ([(Ref15Entry.mk ((gt a0_Map x11).Logic) ((gt a0_Map x11).Owner) ((gt a0_Map x11).Block) ((gt a0_Map x11).At))] : List Ref15Entry)).length) cp30) (l := (([.slice A13 x12.length cp14, .slice A16 x15.length cp17] : List Value))) (vs := ([.slice A29 ((x12 ++ ([(Ref15Entry.mk ((gt a0_Map x11).Logic) ((gt a0_Map x11).Owner) ((gt a0_Map x11).Block) ((gt a0_Map x11).At))] : List Ref15Entry)).length) cp30] : List Value)) (L' := (([.slice A29 ((x12 ++ ([(Ref15Entry.mk ((gt a0_Map x11).Logic) ((gt a0_Map x11).Owner) ((gt a0_Map x11).Block) ((gt a0_Map x11).At))] : List Ref15Entry)).length) cp30, .slice A16 x15.length cp17] : List Value))) (by kernel_rfl) ty28 hI (by kernel_rfl) (by kernel_rfl) (by kernel_rfl) (by kernel_rfl) (by kernel_rfl) ?_)
      intro w hI
      refine OpsT.done ?_
      refine Qn.block_normal ?_
      refine Qn.then ?_
      refine CodT.regionL [0, 1, 2] (by kernel_rfl) ?_
      refine OpsT.pures (r := []) [0, 1, 2] [1, 2, 3, 4] (S' := [(1, .pointer (some ⟨b1, 0, none⟩)), (2, .pointer (some ⟨b2, 0, none⟩)), (3, .pointer (some ⟨b3, 0, none⟩)), (4, .int .i64 (wi64 (x11 + 1)))]) (by kernel_rfl) ?_
      refine OpsT.done ?_
      have hI := hI.mono (pick3 _ _ _ _)
      have hI := hI.drop
      have hI := hI.mono (pick3 _ _ _ _)
      have hI := hI.drop
      have hI := hI.mono (pick4 _ _ _ _ _)
      have hI := hI.mono (pick4 _ _ _ _ _)
      have hI := hI.mono (pick3 _ _ _ _)
      have hI := hI.mono (pick4 _ _ _ _ _)
      exact Qn.thenJ fun a ha => ⟨k, Nat.lt_succ_self k, wi64 (x11 + 1), x12 ++ ([(Ref15Entry.mk ((gt a0_Map x11).Logic) ((gt a0_Map x11).Owner) ((gt a0_Map x11).Block) ((gt a0_Map x11).At))] : List Ref15Entry), x15, A29, cp30, A16, cp17, h1, ha.keep [1, 2, 3, 4] (by kernel_rfl), hI, hr18⟩
    · rw [if_neg hb19] at h1
      refine CodT.no' (b := decide (x11 < (a0_Map.length : Int))) (by kernel_rfl) (by simpa using hb19) ?_
      refine CodT.exit ?_
      refine Qn.exit_then ?_
      refine Qn.exit_then ?_
      refine Qn.block ?_
      have hI := hI.mono (pick4 _ _ _ _ _)
      have hI := hI.drop
      have e := someS h1
      subst e
      exact Qn.thenJ fun a ha => ⟨x12, x15, A13, cp14, A16, cp17, rfl, ha.keep [2, 3] (by kernel_rfl), hI, hr18⟩
  ·
    rintro a w ⟨x4, x7, A5, cp6, A8, cp9, rfl, ha, hI, hr10⟩
    try dsimp only at h0
    refine Qn.of ?_ ha
    refine Qn.then ?_
    refine CodT.seq ?_
    refine CodT.regionL [0, 1] (by kernel_rfl) ?_
    refine OpsT.cons (Does.yi (Yl.load (d := 35) (T := 30) (v := .agg ((([.slice A5 x4.length cp6, .slice A8 x7.length cp9] : List Value))).toArray) (by kernel_rfl) (ldBN ty30 (l := (([.slice A5 x4.length cp6, .slice A8 x7.length cp9] : List Value))) (o := 0) (cs := (([.slice A5 x4.length cp6, .slice A8 x7.length cp9] : List Value))) (pick2 _ _ _) (by kernel_rfl) (whole _ _ (by kernel_rfl)))) hI ?_)
    have hI := hI.mono (pick3 _ _ _ _)
    refine OpsT.cons (Does.storeLit (T := 30) (b := b2) (o := 0) (v := .agg ((([.slice A5 x4.length cp6, .slice A8 x7.length cp9] : List Value))).toArray) (l := (([.slice none 0 0, .slice none 0 0] : List Value))) (vs := (([.slice A5 x4.length cp6, .slice A8 x7.length cp9] : List Value))) (L' := (([.slice A5 x4.length cp6, .slice A8 x7.length cp9] : List Value))) (by kernel_rfl) ty30 hI (by kernel_rfl) (by kernel_rfl) (by kernel_rfl) (by kernel_rfl) (by kernel_rfl) ?_)
    intro w hI
    refine OpsT.done ?_
    refine Qn.then ?_
    refine CodT.ret ?_
    have hL31 := (ldBN ty30 (l := (([.slice A5 x4.length cp6, .slice A8 x7.length cp9] : List Value))) (o := 0) (cs := (([.slice A5 x4.length cp6, .slice A8 x7.length cp9] : List Value))) (ent_refl _) (by kernel_rfl) (whole _ _ (by kernel_rfl))) w hI
    have hI := hI.drop
    have hI := hI.mono (pick2 _ _ _)
    have hI := hI.drop
    have e := someS h0
    subst e
    refine Qn.keep [2] (S' := [(2, .pointer (some ⟨b2, 0, none⟩))]) (by kernel_rfl) ?_
    exact post_ret (v := .agg ((([.slice A5 x4.length cp6, .slice A8 x7.length cp9] : List Value))).toArray) (fun a ha => RunRes.run (vs := [.agg ((([.slice A5 x4.length cp6, .slice A8 x7.length cp9] : List Value))).toArray]) (.cell (t := 2) (T := 30) (ad := ⟨b2, 0, none⟩) (by kernel_rfl) hL31 .nil) ha (by kernel_rfl)) ⟨A5, cp6, A8, cp9, Z, Hp.le_refl _, rfl, hr10, hI⟩
end Go.Cen
