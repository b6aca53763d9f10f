/- The walk of the law PoolOrder, printed by a program of ours. -/
import Derived.Test.YthdoklobbcedcaaWq2
set_option linter.unusedVariables false
set_option linter.unusedSimpArgs false
namespace Go.Cen
set_option maxRecDepth 100000 in
set_option maxHeartbeats 4000000 in
/-- cenotaph/cenotaphlaw17.PoolOrder -/
theorem c12 (w0 w : World) (Z : Hp) (A : HP)  (hI : Inv w0 Z w A) (A_a0 : Option Addr) (c_a0 : Nat) (a0 : (List PoolUse)) (hr_a0 : RdS Z c_PoolUse 5 A_a0 c_a0 a0) (r : Bool) (h0 : law17_PoolOrder a0 = some r) :
    Calls prog 12 #[.slice A_a0 a0.length c_a0] w (fun e w' => e = .returned (.bool r) ∧ Inv w0 Z w' A) := by
  refine calls_intro (args := [.slice A_a0 a0.length c_a0]) (fn := Go.Proofs.Try.f12) 79 Go.Proofs.Try.func12 (by rfl) Go.Proofs.Try.ntmps12 (by kernel_rfl) ?_
  unfold law17_PoolOrder at h0
  refine CodT.seq ?_
  refine CodT.regionL [0] (by kernel_rfl) ?_
  refine OpsT.pures (r := []) [0] [0] (S' := [(0, .slice A_a0 a0.length c_a0)]) (by kernel_rfl) ?_
  refine OpsT.done ?_
  refine Qn.then ?_
  refine CodT.seq ?_
  refine CodT.regionL [0, 1] (by kernel_rfl) ?_
  obtain ⟨y2, hc1, h0⟩ := bindS h0
  try dsimp only at h0
  refine OpsT.cons (Does.call (d := some 9) (n := 24) (vs := []) (by kernel_rfl) en24 (c24 w0 w _ _ hI _ hc1) ?_)
  rintro e w ⟨rfl, hI⟩
  refine ⟨_, rfl, ?_⟩
  refine OpsT.pures (r := []) [1] [0, 3] (S' := [(0, .slice A_a0 a0.length c_a0), (3, .bool y2)]) (by kernel_rfl) ?_
  refine OpsT.done ?_
  refine Qn.then ?_
  refine CodT.seq ?_
  refine CodT.seq ?_
  refine CodT.regionL [0, 1] (by kernel_rfl) ?_
  refine OpsT.pures (r := []) [0, 1] [0, 3, 11] (S' := [(0, .slice A_a0 a0.length c_a0), (3, .bool y2), (11, .bool (!y2))]) (by kernel_rfl) ?_
  refine OpsT.done ?_
  refine Qn.then ?_
  by_cases hb3 : (!y2) = true
  · rw [if_pos hb3] at h0
    refine CodT.yes' (b := !y2) (by kernel_rfl) hb3 ?_
    refine CodT.seq ?_
    refine CodT.regionL [0] (by kernel_rfl) ?_
    refine OpsT.pures (r := []) [0] [2] (S' := [(2, .bool false)]) (by kernel_rfl) ?_
    refine OpsT.done ?_
    refine Qn.then ?_
    refine CodT.ret ?_
    refine Qn.ret_then ?_
    have e := someS h0
    subst e
    refine Qn.keep [2] (S' := [(2, .bool false)]) (by kernel_rfl) ?_
    exact post_ret (v := .bool false) (fun a ha => RunRes.run (vs := [.bool false]) (.tmp (t := 2) (by kernel_rfl) .nil) ha (by kernel_rfl)) ⟨rfl, hI⟩
  · rw [if_neg hb3] at h0
    refine CodT.no' (b := !y2) (by kernel_rfl) (by simpa using hb3) ?_
    refine CodT.skip ?_
    refine Qn.then ?_
    refine CodT.seq ?_
    refine CodT.regionL [0, 1, 2] (by kernel_rfl) ?_
    refine OpsT.pures (r := [1, 2]) [0] [0, 3, 12] (S' := [(0, .slice A_a0 a0.length c_a0), (3, .bool y2), (12, .slice A_a0 a0.length c_a0)]) (by kernel_rfl) ?_
    obtain ⟨y5, hc4, h0⟩ := bindS h0
    try dsimp only at h0
    refine OpsT.cons (Does.call (d := some 13) (n := 25) (vs := [.slice A_a0 a0.length c_a0]) (by kernel_rfl) en25 (c25 w0 w _ _ hI A_a0 c_a0 a0 hr_a0 _ hc4) ?_)
    rintro e w ⟨rfl, hI⟩
    refine ⟨_, rfl, ?_⟩
    refine OpsT.pures (r := []) [2] [0, 3, 4] (S' := [(0, .slice A_a0 a0.length c_a0), (3, .bool y2), (4, .bool y5)]) (by kernel_rfl) ?_
    refine OpsT.done ?_
    refine Qn.then ?_
    refine CodT.seq ?_
    refine CodT.seq ?_
    refine CodT.regionL [0, 1] (by kernel_rfl) ?_
    refine OpsT.pures (r := []) [0, 1] [0, 3, 15] (S' := [(0, .slice A_a0 a0.length c_a0), (3, .bool y2), (15, .bool (!y5))]) (by kernel_rfl) ?_
    refine OpsT.done ?_
    refine Qn.then ?_
    by_cases hb6 : (!y5) = true
    · rw [if_pos hb6] at h0
      refine CodT.yes' (b := !y5) (by kernel_rfl) hb6 ?_
      refine CodT.seq ?_
      refine CodT.regionL [0, 1] (by kernel_rfl) ?_
      refine OpsT.pures (r := []) [0, 1] [2] (S' := [(2, .bool y2)]) (by kernel_rfl) ?_
      refine OpsT.done ?_
      refine Qn.then ?_
      refine CodT.ret ?_
      refine Qn.ret_then ?_
      have e := someS h0
      subst e
      refine Qn.keep [2] (S' := [(2, .bool y2)]) (by kernel_rfl) ?_
      exact post_ret (v := .bool y2) (fun a ha => RunRes.run (vs := [.bool y2]) (.tmp (t := 2) (by kernel_rfl) .nil) ha (by kernel_rfl)) ⟨rfl, hI⟩
    · rw [if_neg hb6] at h0
      refine CodT.no' (b := !y5) (by kernel_rfl) (by simpa using hb6) ?_
      refine CodT.skip ?_
      refine Qn.then ?_
      refine CodT.seq ?_
      refine CodT.regionL [0, 1, 2] (by kernel_rfl) ?_
      refine OpsT.pures (r := [1, 2]) [0] [0, 3, 17] (S' := [(0, .slice A_a0 a0.length c_a0), (3, .bool y2), (17, .slice A_a0 a0.length c_a0)]) (by kernel_rfl) ?_
      obtain ⟨y8, hc7, h0⟩ := bindS h0
      try dsimp only at h0
      refine OpsT.cons (Does.call (d := some 18) (n := 28) (vs := [.slice A_a0 a0.length c_a0]) (by kernel_rfl) en28 (c28 w0 w _ _ hI A_a0 c_a0 a0 hr_a0 _ hc7) ?_)
      rintro e w ⟨A9, cp10, rfl, hI⟩
      refine ⟨_, rfl, ?_⟩
      refine OpsT.pures (r := []) [2] [0, 3, 5] (S' := [(0, .slice A_a0 a0.length c_a0), (3, .bool y2), (5, .slice A9 y8.length cp10)]) (by kernel_rfl) ?_
      refine OpsT.done ?_
      refine Qn.then ?_
      refine CodT.seq ?_
      refine CodT.seq ?_
      refine CodT.regionL [0] (by kernel_rfl) ?_
      refine OpsT.pures (r := []) [0] [0, 3, 5, 6] (S' := [(0, .slice A_a0 a0.length c_a0), (3, .bool y2), (5, .slice A9 y8.length cp10), (6, .int .i64 1)]) (by kernel_rfl) ?_
      refine OpsT.done ?_
      refine Qn.then ?_
      obtain ⟨r1, h1, h0⟩ := bindS h0
      refine CodT.meet1 (fun a w => .inr () = r1 ∧ Fr 79 [(0, .slice A_a0 a0.length c_a0), (3, .bool y2), (5, .slice A9 y8.length cp10)] a ∧ Inv w0 Z w (star (ownS 3 (cI .i64) 1 A9 cp10 y8) A)) ?_ ?_
      ·
        refine CodT.block ?_
        refine (fun a ha => wp_loopN (fun k a w => ∃ (x11 : Int), law17_PoolOrder.l0 y8 a0 k x11 = some r1 ∧ Fr 79 [(0, .slice A_a0 a0.length c_a0), (3, .bool y2), (5, .slice A9 y8.length cp10), (6, .int .i64 x11)] a ∧ Inv w0 Z w (star (ownS 3 (cI .i64) 1 A9 cp10 y8) A)) ?_ FU a w ⟨1, h1, ha.keep [0, 3, 5, 6] (by kernel_rfl), hI⟩)
        clear h1 hI
        rintro k a w ⟨x11, h1, ha, hI⟩
        rcases k with _ | k
        · cases h1
        simp only [law17_PoolOrder.l0] at h1
        refine CodT.of ?_ ha
        refine CodT.seq ?_
        refine CodT.seq ?_
        refine CodT.regionL [0, 1, 2, 3] (by kernel_rfl) ?_
        refine OpsT.pures (r := []) [0, 1, 2, 3] [0, 3, 5, 6, 22] (S' := [(0, .slice A_a0 a0.length c_a0), (3, .bool y2), (5, .slice A9 y8.length cp10), (6, .int .i64 x11), (22, .bool (decide (x11 < (y8.length : Int))))]) (by kernel_rfl) ?_
        refine OpsT.done ?_
        refine Qn.then ?_
        by_cases hb12 : (decide (x11 < (y8.length : Int))) = true
        · rw [if_pos hb12] at h1
          refine CodT.yes' (b := decide (x11 < (y8.length : Int))) (by kernel_rfl) hb12 ?_
          refine CodT.skip ?_
          refine Qn.then ?_
          refine CodT.seq ?_
          refine CodT.block ?_
          refine CodT.seq ?_
          refine CodT.regionL [0, 1, 2, 3, 4, 5, 6, 7, 8, 9] (by kernel_rfl) ?_
          refine OpsT.pures (r := [4, 5, 6, 7, 8, 9]) [0, 1, 2, 3] [0, 3, 5, 6, 25, 26, 28] (S' := [(0, .slice A_a0 a0.length c_a0), (3, .bool y2), (5, .slice A9 y8.length cp10), (6, .int .i64 x11), (25, .slice A_a0 a0.length c_a0), (26, .slice A9 y8.length cp10), (28, .int .i64 (wi64 (x11 - 1)))]) (by kernel_rfl) ?_
          obtain ⟨hg13, h1⟩ := guardS h1
          obtain ⟨g14, hA15, hr16, hl17⟩ := ownS_get hI hg13.1 hg13.2
          refine OpsT.cons (Does.yi (Yl.indexSlice (d := 29) (T := 40) (cc := cp10) (k := .i64) (j := wi64 (x11 - 1)) (g := g14) (o := 0) (by kernel_rfl) Go.Proofs.Try.underlying40 ty3 hA15 hg13.1 hg13.2) hI ?_)
          refine OpsT.cons (Does.yi (Yl.load (d := 30) (T := 3) (v := .int .i64 (gt y8 (wi64 (x11 - 1)))) (by kernel_rfl) (ldR ty3 (v := .int .i64 (gt y8 (wi64 (x11 - 1)))) 0 (fun w hC => hr16 w0 w _ hC) (by kernel_rfl))) hI ?_)
          obtain ⟨hg18, h1⟩ := guardS h1
          obtain ⟨g19, o23, hA20, hr21, hl22⟩ := RdS.get hr_a0 hg18.1 hg18.2
          refine OpsT.cons (Does.yi (Yl.indexSlice (d := 31) (T := 35) (cc := c_a0) (k := .i64) (j := gt y8 (wi64 (x11 - 1))) (g := g19) (o := o23) (by kernel_rfl) Go.Proofs.Try.underlying35 ty49 hA20 hg18.1 hg18.2) hI ?_)
          refine OpsT.pures (r := [8, 9]) [7] [0, 3, 5, 6, 32] (S' := [(0, .slice A_a0 a0.length c_a0), (3, .bool y2), (5, .slice A9 y8.length cp10), (6, .int .i64 x11), (32, .pointer (some ⟨g19, o23 + (gt y8 (wi64 (x11 - 1))).toNat * 5 + 2, none⟩))]) (by kernel_rfl) ?_
          refine OpsT.cons (Does.yi (Yl.load (d := 33) (T := 3) (v := .int .i64 ((gt a0 (gt y8 (wi64 (x11 - 1)))).Worn)) (by kernel_rfl) (ldR ty3 (v := .int .i64 ((gt a0 (gt y8 (wi64 (x11 - 1)))).Worn)) 2 (fun w hC => hr21 w0 w _ hC) (by kernel_rfl))) hI ?_)
          refine OpsT.pures (r := []) [9] [0, 3, 5, 6, 7] (S' := [(0, .slice A_a0 a0.length c_a0), (3, .bool y2), (5, .slice A9 y8.length cp10), (6, .int .i64 x11), (7, .int .i64 ((gt a0 (gt y8 (wi64 (x11 - 1)))).Worn))]) (by kernel_rfl) ?_
          refine OpsT.done ?_
          refine Qn.then ?_
          refine CodT.seq ?_
          refine CodT.regionL [0, 1, 2, 3, 4, 5, 6, 7, 8] (by kernel_rfl) ?_
          refine OpsT.pures (r := [3, 4, 5, 6, 7, 8]) [0, 1, 2] [0, 3, 5, 6, 7, 34, 35, 36] (S' := [(0, .slice A_a0 a0.length c_a0), (3, .bool y2), (5, .slice A9 y8.length cp10), (6, .int .i64 x11), (7, .int .i64 ((gt a0 (gt y8 (wi64 (x11 - 1)))).Worn)), (34, .slice A_a0 a0.length c_a0), (35, .slice A9 y8.length cp10), (36, .int .i64 x11)]) (by kernel_rfl) ?_
          obtain ⟨hg24, h1⟩ := guardS h1
          obtain ⟨g25, hA26, hr27, hl28⟩ := ownS_get hI hg24.1 hg24.2
          refine OpsT.cons (Does.yi (Yl.indexSlice (d := 37) (T := 40) (cc := cp10) (k := .i64) (j := x11) (g := g25) (o := 0) (by kernel_rfl) Go.Proofs.Try.underlying40 ty3 hA26 hg24.1 hg24.2) hI ?_)
          refine OpsT.cons (Does.yi (Yl.load (d := 38) (T := 3) (v := .int .i64 (gt y8 x11)) (by kernel_rfl) (ldR ty3 (v := .int .i64 (gt y8 x11)) 0 (fun w hC => hr27 w0 w _ hC) (by kernel_rfl))) hI ?_)
          obtain ⟨hg29, h1⟩ := guardS h1
          obtain ⟨g30, o34, hA31, hr32, hl33⟩ := RdS.get hr_a0 hg29.1 hg29.2
          refine OpsT.cons (Does.yi (Yl.indexSlice (d := 39) (T := 35) (cc := c_a0) (k := .i64) (j := gt y8 x11) (g := g30) (o := o34) (by kernel_rfl) Go.Proofs.Try.underlying35 ty49 hA31 hg29.1 hg29.2) hI ?_)
          refine OpsT.pures (r := [7, 8]) [6] [0, 3, 5, 6, 7, 40] (S' := [(0, .slice A_a0 a0.length c_a0), (3, .bool y2), (5, .slice A9 y8.length cp10), (6, .int .i64 x11), (7, .int .i64 ((gt a0 (gt y8 (wi64 (x11 - 1)))).Worn)), (40, .pointer (some ⟨g30, o34 + (gt y8 x11).toNat * 5 + 2, none⟩))]) (by kernel_rfl) ?_
          refine OpsT.cons (Does.yi (Yl.load (d := 41) (T := 3) (v := .int .i64 ((gt a0 (gt y8 x11)).Worn)) (by kernel_rfl) (ldR ty3 (v := .int .i64 ((gt a0 (gt y8 x11)).Worn)) 2 (fun w hC => hr32 w0 w _ hC) (by kernel_rfl))) hI ?_)
          refine OpsT.pures (r := []) [8] [0, 3, 5, 6, 7, 8] (S' := [(0, .slice A_a0 a0.length c_a0), (3, .bool y2), (5, .slice A9 y8.length cp10), (6, .int .i64 x11), (7, .int .i64 ((gt a0 (gt y8 (wi64 (x11 - 1)))).Worn)), (8, .int .i64 ((gt a0 (gt y8 x11)).Worn))]) (by kernel_rfl) ?_
          refine OpsT.done ?_
          refine Qn.then ?_
          obtain ⟨r2, h2, h1⟩ := bindS h1
          refine CodT.meet (fun a w => ∃ (x35 : Bool), x35 = r2 ∧ Fr 79 [(0, .slice A_a0 a0.length c_a0), (3, .bool y2), (5, .slice A9 y8.length cp10), (6, .int .i64 x11), (61, .bool x35)] a ∧ Inv w0 Z w (star (ownS 3 (cI .i64) 1 A9 cp10 y8) A)) ?_ ?_
          ·
            refine CodT.drawI (n := 20) [] (by kernel_rfl) (by kernel_rfl) hI ?_
            intro w hI
            refine GmT.p' 0 42 (.int .i64 ((gt a0 (gt y8 (wi64 (x11 - 1)))).Worn)) (by kernel_rfl) (by kernel_rfl) ?_
            refine GmT.p' 1 43 (.int .i64 ((gt a0 (gt y8 x11)).Worn)) (by kernel_rfl) (by kernel_rfl) ?_
            refine GmT.p' 2 44 (.bool (decide (((gt a0 (gt y8 (wi64 (x11 - 1)))).Worn) > ((gt a0 (gt y8 x11)).Worn)))) (by kernel_rfl) (by kernel_rfl) ?_
            refine GmT.p' 3 45 (.bool (decide (((gt a0 (gt y8 (wi64 (x11 - 1)))).Worn) > ((gt a0 (gt y8 x11)).Worn)))) (by kernel_rfl) (by kernel_rfl) ?_
            by_cases hb36 : (decide (((gt a0 (gt y8 (wi64 (x11 - 1)))).Worn) > ((gt a0 (gt y8 x11)).Worn))) = true
            · rw [if_pos hb36] at h2
              refine GmT.keep [0, 3, 5, 6, 7, 8, 45] (S' := [(0, .slice A_a0 a0.length c_a0), (3, .bool y2), (5, .slice A9 y8.length cp10), (6, .int .i64 x11), (7, .int .i64 ((gt a0 (gt y8 (wi64 (x11 - 1)))).Worn)), (8, .int .i64 ((gt a0 (gt y8 x11)).Worn)), (45, .bool true)]) (by simp only [hb36]; kernel_rfl) ?_
              refine GmT.p' 4 46 (undef) (by kernel_rfl) (by kernel_rfl) ?_
              refine GmT.p' 5 47 (undef) (by kernel_rfl) (by kernel_rfl) ?_
              refine GmT.p' 6 48 (undef) (by kernel_rfl) (by kernel_rfl) ?_
              refine GmT.p' 7 49 (undef) (by kernel_rfl) (by kernel_rfl) ?_
              refine GmT.p' 8 50 (undef) (by kernel_rfl) (by kernel_rfl) ?_
              refine GmT.p' 9 51 (undef) (by kernel_rfl) (by kernel_rfl) ?_
              refine GmT.p' 10 52 (undef) (by kernel_rfl) (by kernel_rfl) ?_
              refine GmT.p' 11 53 (undef) (by kernel_rfl) (by kernel_rfl) ?_
              refine GmT.p' 12 54 (undef) (by kernel_rfl) (by kernel_rfl) ?_
              refine GmT.p' 13 55 (undef) (by kernel_rfl) (by kernel_rfl) ?_
              refine GmT.p' 14 56 (undef) (by kernel_rfl) (by kernel_rfl) ?_
              refine GmT.p' 15 57 (undef) (by kernel_rfl) (by kernel_rfl) ?_
              refine GmT.p' 16 58 (undef) (by kernel_rfl) (by kernel_rfl) ?_
              refine GmT.p' 17 59 (undef) (by kernel_rfl) (by kernel_rfl) ?_
              refine GmT.p' 18 60 (undef) (by kernel_rfl) (by kernel_rfl) ?_
              refine GmT.p' 19 61 (.bool true) (by kernel_rfl) (by kernel_rfl) ?_
              refine GmT.done (by kernel_rfl) ?_
              have e := someS h2
              subst e
              exact Qn.thenJ fun a ha => ⟨true, rfl, ha.keep [0, 3, 5, 6, 61] (by kernel_rfl), hI⟩
            · rw [if_neg hb36] at h2
              have hb36 : (decide (((gt a0 (gt y8 (wi64 (x11 - 1)))).Worn) > ((gt a0 (gt y8 x11)).Worn))) = false := by simpa using hb36
              refine GmT.keep [0, 3, 5, 6, 7, 8, 45] (S' := [(0, .slice A_a0 a0.length c_a0), (3, .bool y2), (5, .slice A9 y8.length cp10), (6, .int .i64 x11), (7, .int .i64 ((gt a0 (gt y8 (wi64 (x11 - 1)))).Worn)), (8, .int .i64 ((gt a0 (gt y8 x11)).Worn)), (45, .bool false)]) (by simp only [hb36]; kernel_rfl) ?_
              refine GmT.p' 4 46 (.int .i64 ((gt a0 (gt y8 (wi64 (x11 - 1)))).Worn)) (by kernel_rfl) (by kernel_rfl) ?_
              refine GmT.p' 5 47 (.int .i64 ((gt a0 (gt y8 x11)).Worn)) (by kernel_rfl) (by kernel_rfl) ?_
              refine GmT.p' 6 48 (.bool (((gt a0 (gt y8 (wi64 (x11 - 1)))).Worn) == ((gt a0 (gt y8 x11)).Worn))) (by kernel_rfl) (by kernel_rfl) ?_
              refine GmT.p' 7 49 (.bool (((gt a0 (gt y8 (wi64 (x11 - 1)))).Worn) == ((gt a0 (gt y8 x11)).Worn))) (by kernel_rfl) (by kernel_rfl) ?_
              by_cases hb37 : (((gt a0 (gt y8 (wi64 (x11 - 1)))).Worn) == ((gt a0 (gt y8 x11)).Worn)) = true
              · rw [if_pos hb37] at h2
                refine GmT.keep [0, 3, 5, 6, 45, 49] (S' := [(0, .slice A_a0 a0.length c_a0), (3, .bool y2), (5, .slice A9 y8.length cp10), (6, .int .i64 x11), (45, .bool false), (49, .bool true)]) (by simp only [hb37]; kernel_rfl) ?_
                refine GmT.p' 8 50 (.slice A9 y8.length cp10) (by kernel_rfl) (by kernel_rfl) ?_
                refine GmT.p' 9 51 (.int .i64 x11) (by kernel_rfl) (by kernel_rfl) ?_
                refine GmT.p' 10 52 (.int .i64 (wi64 (x11 - 1))) (by kernel_rfl) (by kernel_rfl) ?_
                refine GmT.p' 13 55 (.slice A9 y8.length cp10) (by kernel_rfl) (by kernel_rfl) ?_
                refine GmT.p' 14 56 (.int .i64 x11) (by kernel_rfl) (by kernel_rfl) ?_
                obtain ⟨hg38, h2⟩ := guardS h2
                obtain ⟨g39, hA40, hr41, hl42⟩ := ownS_get hI hg38.1 hg38.2
                refine GmT.r (i := 11) 2 (by kernel_rfl) (by kernel_rfl) (Yl.indexSlice (d := 53) (T := 40) (cc := cp10) (k := .i64) (j := wi64 (x11 - 1)) (g := g39) (o := 0) (by kernel_rfl) Go.Proofs.Try.underlying40 ty3 hA40 hg38.1 hg38.2) hI ?_
                refine GmT.r (i := 12) 2 (by kernel_rfl) (by kernel_rfl) (Yl.load (d := 54) (T := 3) (v := .int .i64 (gt y8 (wi64 (x11 - 1)))) (by kernel_rfl) (ldR ty3 (v := .int .i64 (gt y8 (wi64 (x11 - 1)))) 0 (fun w hC => hr41 w0 w _ hC) (by kernel_rfl))) hI ?_
                obtain ⟨hg43, h2⟩ := guardS h2
                obtain ⟨g44, hA45, hr46, hl47⟩ := ownS_get hI hg43.1 hg43.2
                refine GmT.r (i := 15) 2 (by kernel_rfl) (by kernel_rfl) (Yl.indexSlice (d := 57) (T := 40) (cc := cp10) (k := .i64) (j := x11) (g := g44) (o := 0) (by kernel_rfl) Go.Proofs.Try.underlying40 ty3 hA45 hg43.1 hg43.2) hI ?_
                refine GmT.r (i := 16) 2 (by kernel_rfl) (by kernel_rfl) (Yl.load (d := 58) (T := 3) (v := .int .i64 (gt y8 x11)) (by kernel_rfl) (ldR ty3 (v := .int .i64 (gt y8 x11)) 0 (fun w hC => hr46 w0 w _ hC) (by kernel_rfl))) hI ?_
                refine GmT.p' 17 59 (.bool (decide ((gt y8 (wi64 (x11 - 1))) ≥ (gt y8 x11)))) (by kernel_rfl) (by kernel_rfl) ?_
                refine GmT.p' 18 60 (.bool (decide ((gt y8 (wi64 (x11 - 1))) ≥ (gt y8 x11)))) (by kernel_rfl) (by kernel_rfl) ?_
                refine GmT.p' 19 61 (.bool (decide ((gt y8 (wi64 (x11 - 1))) ≥ (gt y8 x11)))) (by kernel_rfl) (by kernel_rfl) ?_
                refine GmT.done (by kernel_rfl) ?_
                have e := someS h2
                subst e
                exact Qn.thenJ fun a ha => ⟨decide ((gt y8 (wi64 (x11 - 1))) ≥ (gt y8 x11)), rfl, ha.keep [0, 3, 5, 6, 61] (by kernel_rfl), hI⟩
              · rw [if_neg hb37] at h2
                have hb37 : (((gt a0 (gt y8 (wi64 (x11 - 1)))).Worn) == ((gt a0 (gt y8 x11)).Worn)) = false := by simpa using hb37
                refine GmT.keep [0, 3, 5, 6, 45, 49] (S' := [(0, .slice A_a0 a0.length c_a0), (3, .bool y2), (5, .slice A9 y8.length cp10), (6, .int .i64 x11), (45, .bool false), (49, .bool false)]) (by simp only [hb37]; kernel_rfl) ?_
                refine GmT.p' 8 50 (undef) (by kernel_rfl) (by kernel_rfl) ?_
                refine GmT.p' 9 51 (undef) (by kernel_rfl) (by kernel_rfl) ?_
                refine GmT.p' 10 52 (undef) (by kernel_rfl) (by kernel_rfl) ?_
                refine GmT.p' 11 53 (undef) (by kernel_rfl) (by kernel_rfl) ?_
                refine GmT.p' 12 54 (undef) (by kernel_rfl) (by kernel_rfl) ?_
                refine GmT.p' 13 55 (undef) (by kernel_rfl) (by kernel_rfl) ?_
                refine GmT.p' 14 56 (undef) (by kernel_rfl) (by kernel_rfl) ?_
                refine GmT.p' 15 57 (undef) (by kernel_rfl) (by kernel_rfl) ?_
                refine GmT.p' 16 58 (undef) (by kernel_rfl) (by kernel_rfl) ?_
                refine GmT.p' 17 59 (undef) (by kernel_rfl) (by kernel_rfl) ?_
                refine GmT.p' 18 60 (.bool false) (by kernel_rfl) (by kernel_rfl) ?_
                refine GmT.p' 19 61 (.bool false) (by kernel_rfl) (by kernel_rfl) ?_
                refine GmT.done (by kernel_rfl) ?_
                have e := someS h2
                subst e
                exact Qn.thenJ fun a ha => ⟨false, rfl, ha.keep [0, 3, 5, 6, 61] (by kernel_rfl), hI⟩
          ·
            rintro a w ⟨x35, rfl, ha, hI⟩
            try dsimp only at h1
            refine CodT.of ?_ ha
            by_cases hb48 : x35 = true
            · rw [if_pos hb48] at h1
              refine CodT.yes' (b := x35) (by kernel_rfl) hb48 ?_
              refine CodT.seq ?_
              refine CodT.regionL [0] (by kernel_rfl) ?_
              refine OpsT.pures (r := []) [0] [2] (S' := [(2, .bool false)]) (by kernel_rfl) ?_
              refine OpsT.done ?_
              refine Qn.then ?_
              refine CodT.ret ?_
              refine Qn.block_ret ?_
              refine Qn.ret_then ?_
              refine Qn.ret_then ?_
              refine Qn.block_ret ?_
              refine Qn.ret_then ?_
              refine Qn.ret_then ?_
              have hI := hI.drop
              have e := someS h1
              subst e
              try dsimp only at h0
              have e := someS h0
              subst e
              refine Qn.keep [2] (S' := [(2, .bool false)]) (by kernel_rfl) ?_
              exact post_ret (v := .bool false) (fun a ha => RunRes.run (vs := [.bool false]) (.tmp (t := 2) (by kernel_rfl) .nil) ha (by kernel_rfl)) ⟨rfl, hI⟩
            · rw [if_neg hb48] at h1
              refine CodT.no' (b := x35) (by kernel_rfl) (by simpa using hb48) ?_
              refine CodT.skip ?_
              refine Qn.block_normal ?_
              refine Qn.then ?_
              refine CodT.regionL [0, 1, 2] (by kernel_rfl) ?_
              refine OpsT.pures (r := []) [0, 1, 2] [0, 3, 5, 6] (S' := [(0, .slice A_a0 a0.length c_a0), (3, .bool y2), (5, .slice A9 y8.length cp10), (6, .int .i64 (wi64 (x11 + 1)))]) (by kernel_rfl) ?_
              refine OpsT.done ?_
              exact Qn.thenJ fun a ha => ⟨k, Nat.lt_succ_self k, wi64 (x11 + 1), h1, ha.keep [0, 3, 5, 6] (by kernel_rfl), hI⟩
        · rw [if_neg hb12] at h1
          refine CodT.no' (b := decide (x11 < (y8.length : Int))) (by kernel_rfl) (by simpa using hb12) ?_
          refine CodT.exit ?_
          refine Qn.exit_then ?_
          refine Qn.exit_then ?_
          refine Qn.block ?_
          have e := someS h1
          subst e
          exact Qn.thenJ fun a ha => ⟨rfl, ha.keep [0, 3, 5] (by kernel_rfl), hI⟩
      ·
        rintro a w ⟨rfl, ha, hI⟩
        try dsimp only at h0
        refine Qn.of ?_ ha
        refine Qn.then ?_
        obtain ⟨r1, h1, h0⟩ := bindS h0
        refine CodT.meet (fun a w => ∃ (x49 : Bool), x49 = r1 ∧ Fr 79 [(2, .bool x49)] a ∧ Inv w0 Z w A) ?_ ?_
        ·
          refine CodT.regionL [0, 1, 2, 3, 4, 5, 6, 7, 8, 9, 10, 11, 12, 13, 14, 15, 16, 17] (by kernel_rfl) ?_
          refine OpsT.pures (r := [2, 3, 4, 5, 6, 7, 8, 9, 10, 11, 12, 13, 14, 15, 16, 17]) [0, 1] [0, 5, 63] (S' := [(0, .slice A_a0 a0.length c_a0), (5, .slice A9 y8.length cp10), (63, .bool y2)]) (by kernel_rfl) ?_
          by_cases hb50 : y2 = true
          · rw [if_pos hb50] at h1
            refine OpsT.keep [0, 5, 63] (S' := [(0, .slice A_a0 a0.length c_a0), (5, .slice A9 y8.length cp10), (63, .bool true)]) (by simp only [hb50]; kernel_rfl) ?_
            refine OpsT.pures (r := [9, 10, 11, 12, 13, 14, 15, 16, 17]) [2, 3, 4, 5, 6, 7, 8] [0, 5, 70] (S' := [(0, .slice A_a0 a0.length c_a0), (5, .slice A9 y8.length cp10), (70, .bool (decide ((y8.length : Int) ≤ (a0.length : Int))))]) (by kernel_rfl) ?_
            by_cases hb51 : (decide ((y8.length : Int) ≤ (a0.length : Int))) = true
            · rw [if_pos hb51] at h1
              refine OpsT.keep [0, 5, 70] (S' := [(0, .slice A_a0 a0.length c_a0), (5, .slice A9 y8.length cp10), (70, .bool true)]) (by simp only [hb51]; kernel_rfl) ?_
              refine OpsT.pures (r := [13, 14, 15, 16, 17]) [9, 10, 11, 12] [70, 73, 74] (S' := [(70, .bool true), (73, .bool ((y8.length : Int) == 0)), (74, .slice A_a0 a0.length c_a0)]) (by kernel_rfl) ?_
              obtain ⟨y53, hc52, h1⟩ := bindS h1
              try dsimp only at h1
              refine OpsT.cons (Does.call (d := some 75) (n := 30) (vs := [.slice A_a0 a0.length c_a0]) (by kernel_rfl) en30 (c30 w0 w _ _ hI A_a0 c_a0 a0 hr_a0 _ hc52) ?_)
              rintro e w ⟨rfl, hI⟩
              refine ⟨_, rfl, ?_⟩
              refine OpsT.pures (r := []) [14, 15, 16, 17] [2] (S' := [(2, .bool (((y8.length : Int) == 0) == (decide (y53 < 0))))]) (by kernel_rfl) ?_
              refine OpsT.done ?_
              have hI := hI.drop
              have e := someS h1
              subst e
              exact Qn.thenJ fun a ha => ⟨((y8.length : Int) == 0) == (decide (y53 < 0)), rfl, ha.keep [2] (by kernel_rfl), hI⟩
            · rw [if_neg hb51] at h1
              have hb51 : (decide ((y8.length : Int) ≤ (a0.length : Int))) = false := by simpa using hb51
              refine OpsT.keep [0, 5, 70] (S' := [(0, .slice A_a0 a0.length c_a0), (5, .slice A9 y8.length cp10), (70, .bool false)]) (by simp only [hb51]; kernel_rfl) ?_
              refine OpsT.pures (r := []) [9, 10, 11, 12, 13, 14, 15, 16, 17] [2] (S' := [(2, .bool false)]) (by kernel_rfl) ?_
              refine OpsT.done ?_
              have hI := hI.drop
              have e := someS h1
              subst e
              exact Qn.thenJ fun a ha => ⟨false, rfl, ha.keep [2] (by kernel_rfl), hI⟩
          · rw [if_neg hb50] at h1
            have hb50 : y2 = false := by simpa using hb50
            refine OpsT.keep [0, 5, 63] (S' := [(0, .slice A_a0 a0.length c_a0), (5, .slice A9 y8.length cp10), (63, .bool false)]) (by simp only [hb50]; kernel_rfl) ?_
            refine OpsT.pures (r := []) [2, 3, 4, 5, 6, 7, 8, 9, 10, 11, 12, 13, 14, 15, 16, 17] [2] (S' := [(2, .bool false)]) (by kernel_rfl) ?_
            refine OpsT.done ?_
            have hI := hI.drop
            have e := someS h1
            subst e
            exact Qn.thenJ fun a ha => ⟨false, rfl, ha.keep [2] (by kernel_rfl), hI⟩
        ·
          rintro a w ⟨x49, rfl, ha, hI⟩
          try dsimp only at h0
          refine CodT.of ?_ ha
          refine CodT.ret ?_
          have e := someS h0
          subst e
          refine Qn.keep [2] (S' := [(2, .bool x49)]) (by kernel_rfl) ?_
          exact post_ret (v := .bool x49) (fun a ha => RunRes.run (vs := [.bool x49]) (.tmp (t := 2) (by kernel_rfl) .nil) ha (by kernel_rfl)) ⟨rfl, hI⟩
end Go.Cen
